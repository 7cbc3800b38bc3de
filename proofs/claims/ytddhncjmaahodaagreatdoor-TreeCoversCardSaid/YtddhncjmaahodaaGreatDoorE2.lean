/- Towards the law TreeCovers: lemmas on the evaluator of the model's code, plain laws of numbers, walks of the program's functions, the card. No conditions. -/
import Derived.Test.YtddhncjmaahodaaGreatDoorE1
set_option linter.all false
noncomputable section
open Bool renaming and_eq_true->de,eq_false_iff->mo,false_eq_true->jk
open Classical renaming byContradiction->qI
open Go.Proofs.Tryz renaming prog->e9
open Int renaming natAbs_mul->nM,natAbs_natCast->eU,natAbs_neg->pY,natCast_mul->fF,natCast_nonneg->w9,natCast_zero->kh,ofNat_lt->s3,tdiv->mP,tmod->oB,toNat_natCast->cg
open List renaming append_assoc->gX,append_nil->hU,cons_append->gv,drop_eq_getElem_cons->mQ,drop_of_length_le->mR,drop_replicate->xb,eq_nil_of_length_eq_zero->pn,ext_getElem?->oC,getD_eq_getElem?_getD->bT,getElem?_append_left->s4,getElem?_append_right->vI,getElem?_drop->yD,getElem?_eq_getElem->c4,getElem?_eq_none->lA,getElem?_eq_some_iff->jo,getElem?_map->hY,getElem?_replicate->yE,getElem_mem->s5,length->af,length_append->bw,length_cons->dZ,length_drop->lB,length_nil->p5,length_set->iO,length_singleton->iA,length_take->e8,length_take_of_le->jq,map_append->vJ,mem_append->ki,mem_cons->jr,mem_map->g8,mem_of_getElem?->fL,mem_of_mem_take->oD,mem_or_eq_of_mem_set->yF,mem_singleton->fj,merge->vK,nil_append->fS,replicate->aZ,replicate_succ->qK,replicate_zero->qL,take_append_drop->p6,take_left->vL,take_of_length_le->dr,take_succ_eq_append_getElem->lT,take_zero->vM
open Nat renaming add->gY,add_assoc->ng,add_comm->i_,add_mul->fT,add_sub_cancel->vN,add_zero->dG,beq->bt,beq_refl->uA,ble->b6,div_add_mod->kj,div_eq_of_lt->mw,div_le_self->js,div_lt_iff_lt_mul->s8,div_lt_of_lt_mul->xd,div_mul_le_self->yH,div_one->pA,eq_zero_or_pos->uB,gcd->c9,gcd_comm->rX,le_add_right->qP,le_div_iff_mul_le->vO,le_mul_of_pos_left->yI,le_mul_of_pos_right->yJ,le_of_lt->ja,le_of_not_lt->k4,le_refl->aJ,le_succ->s9,le_trans->c5,lt_of_le_of_lt->fu,lt_of_lt_of_le->fy,lt_of_mul_lt_mul_right->vP,lt_of_not_le->uC,lt_or_ge->rY,lt_succ_of_lt->xh,lt_succ_self->nO,lt_trans->rZ,mod_eq_of_lt->jR,mod_lt->fD,mul->fz,mul_add->dL,mul_assoc->dx,mul_comm->dy,mul_le_mul->iP,mul_le_mul_left->eN,mul_le_mul_right->ei,mul_lt_mul_of_pos_right->qQ,mul_mod_mul_right->uD,mul_ne_zero->xj,mul_one->eD,mul_pos->s_,mul_right_comm->xk,mul_zero->gj,not_lt_zero->nP,one_mul->kn,pos_of_ne_zero->lC,pow_add->iB,pow_le_pow_right->iI,pow_pos->gE,pow_succ->dX,pow_zero->r0,reduceEqDiff->mz,strongRecOn->j3,sub->ko,sub_self->nQ,succ_mul->qR,succ_pos->mA,zero_add->eW,zero_le->cj,zero_mul->j4
open Option renaming none->aN
open Rat renaming divInt->oE
open UInt8 renaming ofNat->iD
namespace Go.Proofs.YtddhncjmaahodaaGreatDoor
section
open Go.ax Go.Proofs.Tryz
set_option maxRecDepth 100000
attribute [local irreducible] rd kc ex bD bB re rg mv bJ pick alloc box bi bs ba be fd bG st fa bz bY cv cn cw cT cS ms cr cK cJ cB mx mn cA ap cF bQ cC cD bU cE ext cO neg Go.ax.not cL cI cN cM cR cP cG cQ cy cx u8
def lu:aW:=[48,48,48,49,48,50,48,51,48,52,48,53,48,54,48,55,48,56,48,57,49,48,49,49,49,50,49,51,49,52,49,53,49,54,49,55,49,56,49,57,50,48,50,49,50,50,50,51,50,52,50,53,50,54,50,55,50,56,50,57,51,48,51,49,51,50,51,51,51,52,51,53,51,54,51,55,51,56,51,57,52,48,52,49,52,50,52,51,52,52,52,53,52,54,52,55,52,56,52,57,53,48,53,49,53,50,53,51,53,52,53,53,53,54,53,55,53,56,53,57,54,48,54,49,54,50,54,51,54,52,54,53,54,54,54,55,54,56,54,57,55,48,55,49,55,50,55,51,55,52,55,53,55,54,55,55,55,56,55,57,56,48,56,49,56,50,56,51,56,52,56,53,56,54,56,55,56,56,56,57,57,48,57,49,57,50,57,51,57,52,57,53,57,54,57,55,57,56,57,57]
def Dr:aW:=[48,49,50,51,52,53,54,55,56,57,97,98,99,100,101,102,103,104,105,106,107,108,109,110,111,112,113,114,115,116,117,118,119,120,121,122]
def GY:=ak 229 f229 2
def d229:=aV 229 f229
def RA:=a_ f229 229
def N0:=ak 230 f230 0
def N1:=ak 230 f230 1
def N2:=ak 230 f230 2
def d230:=aV 230 f230
def RB:=a_ f230 230
def Ok:=ak 295 f295 2
def d295:=aV 295 f295
def RE:=a_ f295 295
def Mh:aS:=(.seq (.c7 [ex 9 (mv (rd 0)),ex 10 (bi .mul (rd 9) (kc (aj 2))),ex 11 (mv (rd 0)),ex 12 (bi .mul (rd 11) (kc (aj 2))),ex 13 (bi .add (rd 12) (kc (aj 2))),ex 14 (cw true true false [(kc (.str lu)),(rd 10),(rd 13)]),ex 2 (bJ (rd 14))])
 .ret)
def Gm:aS:=(.seq (.seq (.c7 [ex 3 (mv (rd 0)),ex 4 (bi .lss (rd 3) (kc (aj 10)))])
 (.cond (rd 4) (.seq (.c7 [ex 5 (mv (rd 0)),ex 6 (mv (rd 0)),ex 7 (bi .add (rd 6) (kc (aj 1))),ex 8 (cw true true false [(kc (.str Dr)),(rd 5),(rd 7)]),ex 2 (bJ (rd 8))])
 .ret) .skip))
 Mh)
def Gl:aS:=(.seq (.c7 [ex 2 (bJ (kc (.str [])))])
 Gm)
def aoJ:Al f291 291 Gl [.tmp 2]:=RP
def aen:=ak 292 f292 0
def aeo:=ak 292 f292 1
def d292:=aV 292 f292
def aoK:=a_ f292 292
def Mj:aS:=(.c7 [ex 94 (mv (rd 4)),ex 95 (bi .sub (rd 94) (kc (aj 8))),ex 4 (bJ (rd 95))])
def Mk:aS:=(.seq (.c7 [ex 81 (mv (rd 0)),ex 82 (mv (rd 4)),ex 83 (bi .sub (rd 82) (kc (aj 7))),ex 84 (mv (rd 0)),ex 85 (mv (rd 4)),ex 86 (bi .sub (rd 85) (kc (aj 8))),ex 87 (mv (rd 10)),ex 88 (bi .add (rd 87) (kc (.int .u32 1))),ex 89 (bY (kc (.str lu)) (rd 88)),ex 90 (mv (rd 10)),ex 91 (bY (kc (.str lu)) (rd 90)),ex 92 (bz none 1 (rd 81) (rd 83)),bD (st 1 (rd 92) (rd 89)),ex 93 (bz none 1 (rd 84) (rd 86)),bD (st 1 (rd 93) (rd 91))])
 Mj)
def Mn:aS:=(.seq (.c7 [ex 68 (mv (rd 0)),ex 69 (mv (rd 4)),ex 70 (bi .sub (rd 69) (kc (aj 5))),ex 71 (mv (rd 0)),ex 72 (mv (rd 4)),ex 73 (bi .sub (rd 72) (kc (aj 6))),ex 74 (mv (rd 11)),ex 75 (bi .add (rd 74) (kc (.int .u32 1))),ex 76 (bY (kc (.str lu)) (rd 75)),ex 77 (mv (rd 11)),ex 78 (bY (kc (.str lu)) (rd 77)),ex 79 (bz none 1 (rd 68) (rd 70)),bD (st 1 (rd 79) (rd 76)),ex 80 (bz none 1 (rd 71) (rd 73)),bD (st 1 (rd 80) (rd 78))])
 Mk)
def Mo:aS:=(.seq (.c7 [ex 55 (mv (rd 0)),ex 56 (mv (rd 4)),ex 57 (bi .sub (rd 56) (kc (aj 3))),ex 58 (mv (rd 0)),ex 59 (mv (rd 4)),ex 60 (bi .sub (rd 59) (kc (aj 4))),ex 61 (mv (rd 8)),ex 62 (bi .add (rd 61) (kc (.int .u32 1))),ex 63 (bY (kc (.str lu)) (rd 62)),ex 64 (mv (rd 8)),ex 65 (bY (kc (.str lu)) (rd 64)),ex 66 (bz none 1 (rd 55) (rd 57)),bD (st 1 (rd 66) (rd 63)),ex 67 (bz none 1 (rd 58) (rd 60)),bD (st 1 (rd 67) (rd 65))])
 Mn)
def Gq:aS:=(.seq (.c7 [ex 42 (mv (rd 0)),ex 43 (mv (rd 4)),ex 44 (bi .sub (rd 43) (kc (aj 1))),ex 45 (mv (rd 0)),ex 46 (mv (rd 4)),ex 47 (bi .sub (rd 46) (kc (aj 2))),ex 48 (mv (rd 9)),ex 49 (bi .add (rd 48) (kc (.int .u32 1))),ex 50 (bY (kc (.str lu)) (rd 49)),ex 51 (mv (rd 9)),ex 52 (bY (kc (.str lu)) (rd 51)),ex 53 (bz none 1 (rd 42) (rd 44)),bD (st 1 (rd 53) (rd 50)),ex 54 (bz none 1 (rd 45) (rd 47)),bD (st 1 (rd 54) (rd 52))])
 Mo)
def Mp:aS:=(.seq (.c7 [ex 36 (mv (rd 6)),ex 37 (bi .quo (rd 36) (kc (.int .u32 100))),ex 38 (bi .mul (rd 37) (kc (.int .u32 2))),ex 39 (mv (rd 6)),ex 40 (bi .rem (rd 39) (kc (.int .u32 100))),ex 41 (bi .mul (rd 40) (kc (.int .u32 2))),ex 10 (bJ (rd 38)),ex 11 (bJ (rd 41))])
 Gq)
def Mq:aS:=(.seq (.c7 [ex 30 (mv (rd 7)),ex 31 (bi .quo (rd 30) (kc (.int .u32 100))),ex 32 (bi .mul (rd 31) (kc (.int .u32 2))),ex 33 (mv (rd 7)),ex 34 (bi .rem (rd 33) (kc (.int .u32 100))),ex 35 (bi .mul (rd 34) (kc (.int .u32 2))),ex 8 (bJ (rd 32)),ex 9 (bJ (rd 35))])
 Mp)
def Mr:aS:=(.seq (.c7 [ex 26 (mv (rd 5)),ex 27 (bi .quo (rd 26) (kc (.int .u32 10000))),ex 28 (mv (rd 5)),ex 29 (bi .rem (rd 28) (kc (.int .u32 10000))),ex 6 (bJ (rd 27)),ex 7 (bJ (rd 29))])
 Mq)
def Ms:aS:=(.seq (.c7 [ex 24 (mv (rd 1)),ex 25 (bi .quo (rd 24) (kc (aC 100000000))),ex 1 (bJ (rd 25))])
 Mr)
def Mt:aS:=(.block 1 (.seq (.c7 [ex 21 (mv (rd 1)),ex 22 (bi .rem (rd 21) (kc (aC 100000000))),ex 23 (bQ .u32 (rd 22)),ex 5 (bJ (rd 23))])
 Ms))
def Gn:aS:=(.seq (.seq (.c7 [ex 19 (mv (rd 4)),ex 20 (bi .geq (rd 19) (kc (aj 8)))])
 (.cond (rd 20) .skip (.exit 0)))
 Mt)
def Gp:aS:=(.cond (rd 161) (.c7 [ex 162 (mv (rd 0)),ex 163 (mv (rd 12)),ex 164 (bi .add (kc (.int .u32 48)) (rd 163)),ex 165 (bQ .u8 (rd 164)),ex 166 (bz none 1 (rd 162) (kc (aj 0))),bD (st 1 (rd 166) (rd 165))]) .skip)
def C0:aS:=(.seq (.c7 [ex 160 (mv (rd 4)),ex 161 (bi .gtr (rd 160) (kc (aj 0)))])
 Gp)
def C1:aS:=(.seq (.seq (.c7 [ex 138 (mv (rd 4)),ex 139 (bi .geq (rd 138) (kc (aj 2)))])
 (.cond (rd 139) (.seq (.c7 [ex 140 (mv (rd 12)),ex 141 (bi .rem (rd 140) (kc (.int .u32 100))),ex 142 (bi .mul (rd 141) (kc (.int .u32 2))),ex 16 (bJ (rd 142))])
 (.seq (.c7 [ex 143 (mv (rd 12)),ex 144 (bi .quo (rd 143) (kc (.int .u32 100))),ex 12 (bJ (rd 144))])
 (.seq (.c7 [ex 145 (mv (rd 0)),ex 146 (mv (rd 4)),ex 147 (bi .sub (rd 146) (kc (aj 1))),ex 148 (mv (rd 0)),ex 149 (mv (rd 4)),ex 150 (bi .sub (rd 149) (kc (aj 2))),ex 151 (mv (rd 16)),ex 152 (bi .add (rd 151) (kc (.int .u32 1))),ex 153 (bY (kc (.str lu)) (rd 152)),ex 154 (mv (rd 16)),ex 155 (bY (kc (.str lu)) (rd 154)),ex 156 (bz none 1 (rd 145) (rd 147)),bD (st 1 (rd 156) (rd 153)),ex 157 (bz none 1 (rd 148) (rd 150)),bD (st 1 (rd 157) (rd 155))])
 (.c7 [ex 158 (mv (rd 4)),ex 159 (bi .sub (rd 158) (kc (aj 2))),ex 4 (bJ (rd 159))])))) .skip))
 C0)
def C2:aS:=(.seq (.seq (.c7 [ex 98 (mv (rd 4)),ex 99 (bi .geq (rd 98) (kc (aj 4)))])
 (.cond (rd 99) (.seq (.c7 [ex 100 (mv (rd 12)),ex 101 (bi .rem (rd 100) (kc (.int .u32 10000))),ex 13 (bJ (rd 101))])
 (.seq (.c7 [ex 102 (mv (rd 12)),ex 103 (bi .quo (rd 102) (kc (.int .u32 10000))),ex 12 (bJ (rd 103))])
 (.seq (.c7 [ex 104 (mv (rd 13)),ex 105 (bi .quo (rd 104) (kc (.int .u32 100))),ex 106 (bi .mul (rd 105) (kc (.int .u32 2))),ex 107 (mv (rd 13)),ex 108 (bi .rem (rd 107) (kc (.int .u32 100))),ex 109 (bi .mul (rd 108) (kc (.int .u32 2))),ex 14 (bJ (rd 106)),ex 15 (bJ (rd 109))])
 (.seq (.c7 [ex 110 (mv (rd 0)),ex 111 (mv (rd 4)),ex 112 (bi .sub (rd 111) (kc (aj 1))),ex 113 (mv (rd 0)),ex 114 (mv (rd 4)),ex 115 (bi .sub (rd 114) (kc (aj 2))),ex 116 (mv (rd 15)),ex 117 (bi .add (rd 116) (kc (.int .u32 1))),ex 118 (bY (kc (.str lu)) (rd 117)),ex 119 (mv (rd 15)),ex 120 (bY (kc (.str lu)) (rd 119)),ex 121 (bz none 1 (rd 110) (rd 112)),bD (st 1 (rd 121) (rd 118)),ex 122 (bz none 1 (rd 113) (rd 115)),bD (st 1 (rd 122) (rd 120))])
 (.seq (.c7 [ex 123 (mv (rd 0)),ex 124 (mv (rd 4)),ex 125 (bi .sub (rd 124) (kc (aj 3))),ex 126 (mv (rd 0)),ex 127 (mv (rd 4)),ex 128 (bi .sub (rd 127) (kc (aj 4))),ex 129 (mv (rd 14)),ex 130 (bi .add (rd 129) (kc (.int .u32 1))),ex 131 (bY (kc (.str lu)) (rd 130)),ex 132 (mv (rd 14)),ex 133 (bY (kc (.str lu)) (rd 132)),ex 134 (bz none 1 (rd 123) (rd 125)),bD (st 1 (rd 134) (rd 131)),ex 135 (bz none 1 (rd 126) (rd 128)),bD (st 1 (rd 135) (rd 133))])
 (.c7 [ex 136 (mv (rd 4)),ex 137 (bi .sub (rd 136) (kc (aj 4))),ex 4 (bJ (rd 137))])))))) .skip))
 C1)
def Ml:aS:=(.seq (.c7 [ex 96 (mv (rd 1)),ex 97 (bQ .u32 (rd 96)),ex 12 (bJ (rd 97))])
 C2)
def Mm:aS:=(.seq (.block 0 (.loop Gn))
 Ml)
def Mi:aS:=(.seq (.c7 [ex 17 (mv (rd 0)),ex 18 (cr (rd 17)),ex 4 (bJ (rd 18))])
 Mm)
def aoL:Al f293 293 Mi []:=RP
def aep:=ak 296 f296 0
def d296:=aV 296 f296
def RF:=a_ f296 296
def aa9:=ak 161 f161 0
def d161:=aV 161 f161
def Ru:=a_ f161 161
def aa_:=ak 162 f162 0
def d162:=aV 162 f162
def Rv:=a_ f162 162
def afO:=ak 350 f350 0
def d350:=aV 350 f350
def aoZ:=a_ f350 350
def afP:=ak 351 f351 0
def OO:=ak 351 f351 1
def d351:=aV 351 f351
def ao0:=a_ f351 351
def Ye:=ak 100 f100 0
def MZ:=ak 100 f100 1
def d100:=aV 100 f100
def anh:=a_ f100 100
def Yu:=ak 104 f104 0
def M4:=ak 104 f104 1
def Yv:=ak 104 f104 2
def M5:=ak 104 f104 3
def Yw:=ak 104 f104 4
def d104:=aV 104 f104
def anl:=a_ f104 104
def Yx:=ak 105 f105 0
def Yy:=ak 105 f105 1
def Yz:=ak 105 f105 2
def YA:=ak 105 f105 3
def M6:=ak 105 f105 4
def M7:=ak 105 f105 5
def M8:=ak 105 f105 6
def d105:=aV 105 f105
def anm:=a_ f105 105
def YB:=ak 106 f106 0
def YC:=ak 106 f106 1
def d106:=aV 106 f106
def ann:=a_ f106 106
def YD:=ak 107 f107 0
def d107:=aV 107 f107
def ano:=a_ f107 107
def YE:=ak 108 f108 0
def YF:=ak 108 f108 1
def M9:=ak 108 f108 2
def d108:=aV 108 f108
def anp:=a_ f108 108
def YG:=ak 109 f109 0
def d109:=aV 109 f109
def anq:=a_ f109 109
def M_:=ak 110 f110 0
def AM:=ak 110 f110 1
def d110:=aV 110 f110
def anr:=a_ f110 110
def Na:=ak 111 f111 0
def Nb:=ak 111 f111 1
def Nc:=ak 111 f111 2
def GH:=ak 111 f111 3
def AN:=ak 111 f111 4
def d111:=aV 111 f111
def ans:=a_ f111 111
def YH:=ak 112 f112 0
def YI:=ak 112 f112 1
def Nd:=ak 112 f112 2
def YJ:=ak 112 f112 3
def YK:=ak 112 f112 4
def YL:=ak 112 f112 5
def YM:=ak 112 f112 6
def Da:=ak 112 f112 7
def d112:=aV 112 f112
def ant:=a_ f112 112
def Db:=ak 120 f120 0
def Dc:=ak 120 f120 1
def GI:=ak 120 f120 2
def Zb:=ak 120 f120 3
def Dd:=ak 120 f120 4
def Zc:=ak 120 f120 5
def Nh:=ak 120 f120 6
def d120:=aV 120 f120
def anz:=a_ f120 120
def aa5:=ak 160 f160 0
def aa6:=ak 160 f160 1
def aa7:=ak 160 f160 2
def aa8:=ak 160 f160 3
def d160:=aV 160 f160
def anQ:=a_ f160 160
def abe:=ak 164 f164 0
def d164:=aV 164 f164
def anS:=a_ f164 164
def abg:=ak 167 f167 0
def d167:=aV 167 f167
def anV:=a_ f167 167
def abl:=ak 171 f171 0
def d171:=aV 171 f171
def anX:=a_ f171 171
def abo:=ak 174 f174 0
def NA:=ak 174 f174 1
def d174:=aV 174 f174
def an0:=a_ f174 174
def abp:=ak 175 f175 0
def abq:=ak 175 f175 1
def NB:=ak 175 f175 2
def d175:=aV 175 f175
def an1:=a_ f175 175
def abr:=ak 176 f176 0
def NC:=ak 176 f176 1
def d176:=aV 176 f176
def an2:=a_ f176 176
def abP:=ak 184 f184 0
def abQ:=ak 184 f184 1
def NK:=ak 184 f184 2
def abR:=ak 184 f184 3
def abS:=ak 184 f184 4
def abT:=ak 184 f184 5
def abU:=ak 184 f184 6
def d184:=aV 184 f184
def an8:=a_ f184 184
def aht:=ak 56 f56 0
def ahu:=ak 56 f56 1
def d56:=aV 56 f56
def api:=a_ f56 56
def ahv:=ak 57 f57 0
def ahw:=ak 57 f57 1
def d57:=aV 57 f57
def apj:=a_ f57 57
def ahx:=ak 58 f58 0
def ahy:=ak 58 f58 1
def d58:=aV 58 f58
def apk:=a_ f58 58
def ahz:=ak 59 f59 0
def ahA:=ak 59 f59 1
def d59:=aV 59 f59
def apl:=a_ f59 59
def aid:=ak 72 f72 0
def HD:=ak 72 f72 1
def aie:=ak 72 f72 2
def aif:=ak 72 f72 3
def d72:=aV 72 f72
def apt:=a_ f72 72
def abi:=ak 170 f170 0
def Nz:=ak 170 f170 1
def GM:=ak 170 f170 2
def GN:=ak 170 f170 3
def GO:=ak 170 f170 4
def abj:=ak 170 f170 5
def abk:=ak 170 f170 6
def d170:=aV 170 f170
def anW:=a_ f170 170
def acY:=ak 233 f233 0
def d233:=aV 233 f233
def aom:=a_ f233 233
def Zk:=ak 12 f12 0
def Zl:=ak 12 f12 1
def Ni:=ak 12 f12 2
def Zm:=ak 12 f12 3
def Zn:=ak 12 f12 4
def Zo:=ak 12 f12 5
def Zp:=ak 12 f12 6
def d12:=aV 12 f12
def zq:=a_ f12 12
def Zq:=ak 13 f13 0
def Zr:=ak 13 f13 1
def Zs:=ak 13 f13 2
def Zt:=ak 13 f13 3
def Zu:=ak 13 f13 4
def Zv:=ak 13 f13 5
def d13:=aV 13 f13
def A8:=a_ f13 13
def abx:=ak 17 f17 0
def d17:=aV 17 f17
def D8:=a_ f17 17
def acp:=ak 20 f20 0
def GV:=ak 20 f20 1
def Dg:=ak 20 f20 2
def acq:=ak 20 f20 3
def acr:=ak 20 f20 4
def acs:=ak 20 f20 5
def acu:=ak 20 f20 6
def d20:=aV 20 f20
def aob:=a_ f20 20
def ahm:=ak 54 f54 0
def ahn:=ak 54 f54 1
def Pb:=ak 54 f54 2
def aho:=ak 54 f54 3
def ahp:=ak 54 f54 4
def ahq:=ak 54 f54 5
def ahr:=ak 54 f54 6
def d54:=aV 54 f54
def RK:=a_ f54 54
def ahs:=ak 55 f55 0
def d55:=aV 55 f55
def aph:=a_ f55 55
def ahM:=ak 61 f61 0
def ahN:=ak 61 f61 1
def Pe:=ak 61 f61 2
def ahO:=ak 61 f61 3
def ahP:=ak 61 f61 4
def ahQ:=ak 61 f61 5
def ahR:=ak 61 f61 6
def d61:=aV 61 f61
def apn:=a_ f61 61
def aiF:=ak 99 f99 0
def aiG:=ak 99 f99 1
def aiH:=ak 99 f99 2
def aiI:=ak 99 f99 3
def d99:=aV 99 f99
def apF:=a_ f99 99
def Yf:=ak 101 f101 0
def Yg:=ak 101 f101 1
def M0:=ak 101 f101 2
def Yn:=ak 101 f101 3
def Yo:=ak 101 f101 4
def Yp:=ak 101 f101 5
def M1:=ak 101 f101 6
def Yq:=ak 101 f101 7
def Yr:=ak 101 f101 8
def Ys:=ak 101 f101 9
def Yh:=ak 101 f101 10
def Yi:=ak 101 f101 11
def Yj:=ak 101 f101 12
def Yk:=ak 101 f101 13
def Yl:=ak 101 f101 14
def Ym:=ak 101 f101 15
def d101:=aV 101 f101
def ani:=a_ f101 101
def Yt:=ak 102 f102 0
def d102:=aV 102 f102
def anj:=a_ f102 102
def M3:=ak 103 f103 0
def d103:=aV 103 f103
def ank:=a_ f103 103
def aax:=ak 154 f154 0
def aay:=ak 154 f154 1
def Nj:=ak 154 f154 2
def Nk:=ak 154 f154 3
def aaz:=ak 154 f154 4
def aaA:=ak 154 f154 5
def aaB:=ak 154 f154 6
def aaC:=ak 154 f154 7
def d154:=aV 154 f154
def anK:=a_ f154 154
def Nl:=ak 155 f155 0
def Nm:=ak 155 f155 1
def GK:=ak 155 f155 2
def GL:=ak 155 f155 3
def AP:=ak 155 f155 4
def De:=ak 155 f155 5
def yY:=ak 155 f155 6
def yZ:=ak 155 f155 7
def Nn:=ak 155 f155 8
def No:=ak 155 f155 9
def aaD:=ak 155 f155 10
def aaE:=ak 155 f155 11
def aaF:=ak 155 f155 12
def d155:=aV 155 f155
def anL:=a_ f155 155
def aaG:=ak 156 f156 0
def aaH:=ak 156 f156 1
def Np:=ak 156 f156 2
def aaN:=ak 156 f156 3
def aaO:=ak 156 f156 4
def aaP:=ak 156 f156 5
def Nq:=ak 156 f156 6
def aaQ:=ak 156 f156 7
def aaR:=ak 156 f156 8
def aaS:=ak 156 f156 9
def aaI:=ak 156 f156 10
def aaJ:=ak 156 f156 11
def aaK:=ak 156 f156 12
def aaL:=ak 156 f156 13
def aaM:=ak 156 f156 14
def d156:=aV 156 f156
def anM:=a_ f156 156
def aaT:=ak 157 f157 0
def d157:=aV 157 f157
def anN:=a_ f157 157
def aaU:=ak 158 f158 0
def aaV:=ak 158 f158 1
def Nr:=ak 158 f158 2
def aaW:=ak 158 f158 3
def aaX:=ak 158 f158 4
def aaY:=ak 158 f158 5
def aaZ:=ak 158 f158 6
def d158:=aV 158 f158
def anO:=a_ f158 158
def aa0:=ak 159 f159 0
def aa1:=ak 159 f159 1
def Ns:=ak 159 f159 2
def aa2:=ak 159 f159 3
def aa3:=ak 159 f159 4
def aa4:=ak 159 f159 5
def d159:=aV 159 f159
def anP:=a_ f159 159
def acf:=ak 202 f202 0
def acg:=ak 202 f202 1
def NN:=ak 202 f202 2
def ach:=ak 202 f202 3
def aci:=ak 202 f202 4
def acj:=ak 202 f202 5
def ack:=ak 202 f202 6
def acm:=ak 202 f202 7
def acn:=ak 202 f202 8
def aco:=ak 202 f202 9
def d202:=aV 202 f202
def aoc:=a_ f202 202
def acO:=ak 227 f227 0
def acP:=ak 227 f227 1
def d227:=aV 227 f227
def aoj:=a_ f227 227
def acQ:=ak 228 f228 0
def acR:=ak 228 f228 1
def d228:=aV 228 f228
def aok:=a_ f228 228
def ad5:=ak 274 f274 0
def d274:=aV 274 f274
def aoD:=a_ f274 274
def ad6:=ak 275 f275 0
def d275:=aV 275 f275
def aoE:=a_ f275 275
def afK:=ak 334 f334 12
def afL:=ak 334 f334 13
def afM:=ak 334 f334 14
def afN:=ak 334 f334 15
def d334:=aV 334 f334
def aoX:=a_ f334 334
def NR:=ak 225 f225 0
def NS:=ak 225 f225 1
def GW:=ak 225 f225 2
def GX:=ak 225 f225 3
def acL:=ak 225 f225 4
def acM:=ak 225 f225 5
def NU:=ak 225 f225 6
def NV:=ak 225 f225 7
def NW:=ak 225 f225 8
def acN:=ak 225 f225 9
def acE:=ak 225 f225 10
def NT:=ak 225 f225 11
def acF:=ak 225 f225 12
def acG:=ak 225 f225 13
def acH:=ak 225 f225 14
def acI:=ak 225 f225 15
def acJ:=ak 225 f225 16
def acK:=ak 225 f225 17
def d225:=aV 225 f225
def aoh:=a_ f225 225
def NX:=ak 226 f226 0
def NY:=ak 226 f226 1
def NZ:=ak 226 f226 2
def d226:=aV 226 f226
def aoi:=a_ f226 226
def agN:=ak 372 f372 0
def agO:=ak 372 f372 1
def agP:=ak 372 f372 2
def O9:=ak 372 f372 3
def agQ:=ak 372 f372 4
def O_:=ak 372 f372 5
def Pa:=ak 372 f372 6
def d372:=aV 372 f372
def RJ:=a_ f372 372
end
open Go.ax Go.aD
def bC(l:av):au:=l.map λd:Nat=>V.int .u32 (d:Int)
def mag(l:av):V:=.row (af l) (bC l)
theorem iT(l:av):af (bC l)=af l:=by simp[bC]
variable{g:av}{a:Nat}
def iK(h:a<af g):dw (bC g) a=some (.int .u32 ((g.getD a 0:Nat):Int)):=by rw[iu];simp[bC,h]
@[go_sem]theorem azX(l:av):di (mag l)=some (.val (aj (af l))):=rfl
@[go_sem]theorem azw(l:av):bM (mag l)=true:=rfl
@[go_sem]theorem ayT(l:av):cellsOf (mag l)=[mag l]:=rfl
@[go_sem]theorem aAq(l:av):V.one (mag l)=true:=rfl
variable{q:Int}{p:IntKind}
def kB{l:av}(h:0<=q/\q<af l):dO none 1 [mag l,.int p q]=some (.val (.dY (bC l) q.toNat)):=by rw[mag,nx h,eD]
def auq(a:0<=q/\q<=af g):slice3 (kG 1) false true false [mag g,.int p q]=some (.val (mag (g.take q.toNat))):=by rw[mag,EZ (by rw[iT,eD]) a];simp only[mag,bC,e8,eD,List.map_take];rw[(aa:min q.toNat (af g)=q.toNat)]
def Qh(l:av):ct (bC l):=ct.iff.2 λv h=>by simp only[bC,g8]at h;obtain⟨d,_,rfl⟩:=h;exact .int _ _
def lE(l:av):bA (mag l):=.row _ (Qh l)
def vu(l:av)(hl:af l<4294967296):bm 87 [mag l] (mag (trim l)):=by
 intro H;refine bg RM ?_;simp only[d87,Pq,Pp];simp only[go_sem];refine b8 (λk F f=>∃m,rd 0 F=mag m/\trim m=trim l/\k=af m/\af m<=af l/\f=H) (af l) ⟨l,by simp only[go_sem],rfl,rfl,aJ _,rfl⟩ ?_;rintro k F f ⟨m,b,c,rfl,j,rfl⟩;simp only[Po,Pn];rcases List.eq_nil_or_concat m with rfl|⟨a,d,rfl⟩
 .simp(disch:=omega)only[go_sem,b,p5,df];exact⟨by rw[<-c];rfl,trivial⟩
 .rw[List.concat_eq_append]at*;have e:af (a++[d])=af a+1:=aI;have i:af (bC (a++[d]))=af a+1:=by rw[iT,e]
  have hi:(((af a+1:Nat):Int)-1).toNat=af a:=aa;have h:(a++[d]).getD (af a) 0=d:=aI;by_cases g:d=0
  .subst g;simp(disch:=omega)only[go_sem,b,e,dt,aK,kB,hi,iK,h,auq];refine⟨af a,aa,a,?_,(z6 a).symm.trans c,rfl,aa,rfl⟩;simp only[go_sem];simp[]
  .simp(disch:=omega)only[go_sem,b,e,dt,df,aK,kB,hi,iK,h];rw[<-c,z4 _ _ g];exact⟨rfl,trivial⟩
def aqz(s:Bool)(n:Nat)(a:au)(b:ct a):bm 86 [.bool s,.row n a] (.agg [.bool (s&&decide (0<n)),.row n a]):=by
 refine rB (R:=λv=>v=_) (.f2 .bb (.row _ b)) (dD.mono (Q:=λv _=>v=.agg [.bool (s&&decide (0<n)),.row n a]) (λv c h=>⟨v,.same v,by rw[h];exact .agg (.f2 .bb (.row _ b)),h⟩) ?_);refine bg apy ?_;simp only[d86,aiu];cases s
 .simp only[go_sem,Nat.reduceAdd,Bool.false_and]
 .simp only[go_sem,Nat.reduceAdd,Bool.true_and];by_cases h:0<n
  .simp(disch:=omega)only[dt]
  .simp(disch:=omega)only[df]
def pE(a b:Nat):Int:=if a<b then-1 else if a=b then 0 else 1
def MO(a b:av)(q:aG a)(r:aG b)(u:aY a)(v:aY b)(x:af a<4294967296)(y:af b<4294967296):bm 148 [mag a,mag b] (aj (pE (val a) (val b))):=by
 intro H;refine bg anG ?_;simp only[d148,aaf,aae,aad];rcases Nat.lt_trichotomy (af a) (af b)with h|h|h
 .have c:=ve q v h;simp(disch:=omega)only[go_sem,Nat.reduceAdd,dt,df];simp[pE,c]
 .simp(disch:=omega)only[go_sem,Nat.reduceAdd,dt,aK];refine b8 (λk F p=>∃j:Nat,rd 0 F=mag a/\rd 1 F=mag b/\rd 5 F=aj ((j:Int)-1)/\k=j/\j<=af a/\a.drop j=b.drop j/\p=H) (af a) ⟨af a,?_,?_,?_,rfl,aJ _,?_,rfl⟩ ?_
  iterate 3 simp only[go_sem]
  .rw[mR (aJ _),mR aa]
  rintro j F p ⟨_,d,e,f,rfl,w,g,rfl⟩;simp only[aac,aab,aaa];cases j with
  |zero=>
   have s:a=b:=by simpa using g
   simp(disch:=omega)only[go_sem,f,dt];rw[s];simp[pE]
  |succ i=>
   have hi:(((i+1:Nat):Int)-1).toNat=i:=aa;have l:i<af a:=aa;have m:i<af b:=aa;rcases Nat.lt_trichotomy (a.getD i 0) (b.getD i 0)with t|heq|hgt
   .have c:=Bh q l m g t;simp(disch:=omega)only[go_sem,d,e,f,dt,df,kB,hi,iK];simp[pE,c]
   .simp(disch:=omega)only[go_sem,d,e,f,dt,df,kB,hi,iK,aK];refine⟨i,aa,i,?_,?_,?_,rfl,aa,?_,rfl⟩
    iterate 2 simp only[go_sem,d,e]
    .simp only[go_sem];congr 1;omega
    .rw[mQ l,mQ m,g];congr 1;simpa [bT,l,m]using heq
   .have c:=Bh r m l g.symm hgt;simp(disch:=omega)only[go_sem,d,e,f,df,kB,hi,iK];have n:¬val a<val b:=aa;have o:¬val a=val b:=aa;simp[pE,n,o]
 .have c:=ve r u h;simp(disch:=omega)only[go_sem,Nat.reduceAdd,df];have n:¬val a<val b:=aa;have o:¬val a=val b:=aa;simp[pE,n,o]
def n4(l:av)(i v:Nat):(bC l).set i (.int .u32 (v:Int))=bC (l.set i v):=by simp[bC,List.map_set]
theorem sI(n:Nat):tU (n:Int) (ej 32 (h_ .u64))=((n/4294967296:Nat):Int):=rfl
def ru(n:Nat):(n:Int)%4294967296=((n%4294967296:Nat):Int):=aa
def TF(ds:av)(k v:Nat):(ds++aZ (k+1) 0).set (af ds) v=(ds++[v])++aZ k 0:=by simp[qK]
def rM{l:av}{i:Nat}(h:i<af l):val (l.take (i+1))=val (l.take i)+4294967296^i*l.getD i 0:=by rw[lT h,gi,jq (ja h),bT,c4 h];simp[val]
def Lc(x y:av)(S:aG x)(T:aG y)(hl:af y<=af x)(X:af x<4294967295)(b:Nat)(F:Fr)(H:ah)(R:b5)(c:Cap)
 (A:rd 0 F=mag x) (B:rd 1 F=mag y) (C:rd 5 F=.slice b 0 (af x+1) c) (D:rd 6 F=aC 0) (E:rd 7 F=aj 0) (L:H.get b=an (bC (aZ (af x+1) 0)) 0)
 (M:∀i n ds a,rd 0 i=mag x->rd 5 i=.slice b 0 (af x+1) c->rd 6 i=aC (a:Nat)->a<=1->af ds=af x->aG ds->val ds+4294967296^(af x)*a=val x+val y->n.get b=an (bC (ds++[0])) 0->n.ag=H.ag->R (.exit 0) i n):
 bK (.loop (pc 147 2)) R F H:=by
 refine b8 (λk d f=>∃ds a,rd 0 d=mag x/\rd 1 d=mag y/\rd 5 d=.slice b 0 (af x+1) c/\rd 6 d=aC (a:Nat)/\rd 7 d=aj (af ds:Nat)/\a<=1/\k=af x-af ds/\af ds<=af x/\aG ds/\
  val ds+4294967296^(af ds)*a=val (x.take (af ds))+val (y.take (af ds))/\f.get b=an (bC (ds++aZ (af x-af ds+1) 0)) 0/\f.ag=H.ag) (af x) ⟨[],0,A,B,C,D,E,aa,rfl,cj _,aG.nil,rfl,L,rfl⟩ ?_
 rintro k d f ⟨ds,a,g,j,h,o,p,N,rfl,V,z,t,l,w⟩;simp only[Z4,Z3,Z2];by_cases hi:af ds<af x
 .obtain⟨m,P⟩:∃m,af x-af ds=m+1:=⟨af x-af ds-1,aa⟩;have Z:=S.getD (af ds);have ab:=T.getD (af ds);have v:((af ds:Nat):Int).toNat=af ds:=aa;skip;rw[P]at l⊢;have W:af (bC (ds++aZ (m+1+1) 0))=af ds+m+2:=by simp[iT];omega
  have u:∀(e:Fr) (s:Nat),s<4294967296*2->rd 0 e=mag x->rd 1 e=mag y->rd 5 e=.slice b 0 (af x+1) c->rd 6 e=aC (s/4294967296:Nat)->rd 7 e=aj (((af ds:Nat):Int)+1)->
   4294967296^(af ds)*s+val ds=val (x.take (af ds+1))+val (y.take (af ds+1))->
   qT (λk d f=>∃ds a,rd 0 d=mag x/\rd 1 d=mag y/\rd 5 d=.slice b 0 (af x+1) c/\rd 6 d=aC (a:Nat)/\rd 7 d=aj (af ds:Nat)/\a<=1/\k=af x-af ds/\af ds<=af x/\aG ds/\
    val ds+4294967296^(af ds)*a=val (x.take (af ds))+val (y.take (af ds))/\f.get b=an (bC (ds++aZ (af x-af ds+1) 0)) 0/\f.ag=H.ag) (m+1) e (f.set b (an (bC ((ds++aZ (m+1+1) 0).set (af ds) (s%4294967296))) 0)):=by
   intro e s Y G I J K bp Q;refine⟨m,aa,ds++[s%4294967296],s/4294967296,G,I,J,K,?_,aa,?_,?_,z.app (.mk aa aG.nil),?_,?_,w⟩
   .rw[bp];simp
   .simp;omega
   .simp;omega
   .rw[gi];simp only[bw,iA,dX,val,gj,dG];rw[<-Q];have U:4294967296^(af ds)*s=4294967296^(af ds)*(s%4294967296)+4294967296^(af ds)*4294967296*(s/4294967296):=by rw[dx,<-dL,Nat.mod_add_div]
    omega
   .rw[ah.aT,ay rfl,TF];have:af x-af (ds++[s%4294967296])+1=m+1:=e7;rw[this]
  by_cases O:af ds<af y
  .have r:((a:Nat):Int)+((x.getD (af ds) 0:Nat):Int)+((y.getD (af ds) 0:Nat):Int)=((a+x.getD (af ds) 0+y.getD (af ds) 0:Nat):Int):=aa;simp(disch:=omega)only[go_sem,g,j,h,o,p,dt,kB,cH,v,iK,cz,aK,r,sI,pU,ru,l,fE,n4];refine u _ (a+x.getD (af ds) 0+y.getD (af ds) 0) aa ?_ ?_ ?_ ?_ ?_ ?_
   iterate 5 simp only[go_sem,g,j,h]
   .rw[rM hi,rM O,dL,dL];omega
  .have r:((a:Nat):Int)+((x.getD (af ds) 0:Nat):Int)=((a+x.getD (af ds) 0:Nat):Int):=aa;simp(disch:=omega)only[go_sem,g,j,h,o,p,dt,df,kB,cH,v,iK,cz,aK,r,sI,pU,ru,l,fE,n4];refine u _ (a+x.getD (af ds) 0) aa ?_ ?_ ?_ ?_ ?_ ?_
   iterate 5 simp only[go_sem,g,j,h]
   .rw[dr (aa:af y<=af ds)]at t;rw[rM hi,dr (aa:af y<=af ds+1),dL];omega
 .have q:af ds=af x:=aa;simp(disch:=omega)only[go_sem,g,p,df];refine M _ _ ds a ?_ ?_ ?_ N q z ?_ ?_ w
  iterate 3 simp only[go_sem,g,h,o]
  .rw[q,dr (aJ _),dr hl]at t;exact t
  .rw[l,q];simp
def yc(n:Nat):rep [V.int .u32 0] n=bC (aZ n 0):=by
 induction n with
 |zero=>rfl
 |succ n a=>show dJ [V.int .u32 0] (rep [V.int .u32 0] n)=_;rw[iW,a];simp[bC,qK]
variable{b:ah}{I:ah}{d:Nat}{Y:Cap}
def wg{l:av}(h:b.get a=an (bC l) 0)(e:I.get a=.none)(f:af l=d):bS b I (.slice a 0 d Y) (mag l):=by
 subst f;cases l with
 |nil=>exact .fQ a 0 Y
 |cons c l=>refine .row (m:=af (c::l)) (cs:=bC (c::l)) ?_ (mA _) e (dn.refl _);rw[fO h,dQ,fB,ay (by rw[iT];exact aJ _),dr (by rw[iT];exact aJ _)]
def Vw(a b:av)(o:aG a)(p:aG b)(u:af a<4294967295)(w:af b<4294967295):bm 147 [mag a,mag b] (mag (aU (val a+val b))):=by
 refine rB (R:=λv=>v=_) (.f2 (lE _) (lE _)) (dD.mono (Q:=λv _=>v=mag (aU (val a+val b))) (λv y h=>⟨v,.same v,by rw[h];exact lE _,h⟩) ?_);refine bg anF ?_;simp only[d147,Z_,Z9,Z8,Z7,Z6,Z5]
 have r:∀(x:av) (F:Fr) (H:ah) (ds:av) (c eK:Nat),af x<4294967295->c<=1->af ds=af x->aG ds->val ds+4294967296^(af x)*c=val a+val b->H.get eK=an (bC (ds++[0])) 0->rd 0 F=mag x->rd 5 F=.slice eK 0 (af x+1) (.known (af x+1))->rd 6 F=aC (c:Nat)->
  bK (.seq (.c7 [ex 50 (mv (rd 5)),ex 51 (mv (rd 0)),ex 52 (cr (rd 51)),ex 53 (mv (rd 6)),ex 54 (bQ .u32 (rd 53)),ex 55 (bz none 1 (rd 50) (rd 52)),bD (st 1 (rd 55) (rd 54))])
   (.seq (.c7 [ex 56 (mv (rd 5)),ex 57 (bU 87 [(rd 56)]),ex 4 (bJ (rd 57))]) .ret)) (gC [.tmp 4] λv _=>v=mag (aU (val a+val b))) F H:=by
  intro x F H ds c eK A k d j l i e f g;have z:af (bC (ds++[0]))=af x+1:=by rw[iT];simp[d]
  have t:(ds++[0]).set (af x) c=ds++[c]:=by rw[<-d];simp
  simp(disch:=omega)only[go_sem,e,f,g,iU,cH,i,fE,n4,t];have s:af (ds++[c])=af x+1:=by simp[d]
  have q:(H.set eK (an (bC (ds++[c])) 0)).get eK=an (bC (ds++[c])) 0:=jE;refine kV (vu (ds++[c]) aa) q ⟨0,_,_,fj.2 rfl⟩ (.f1 (wg q jE s)) ?_;simp only[go_sem];rw[sR (j.app (.mk aa aG.nil)),gi,d,<-l];simp[val]
 by_cases h:af a<af b
 .simp(disch:=omega)only[go_sem,dt,aK,iG,yc];refine Lc b a p o (ja h) aa 5 _ _ _ (.known (af b+1)) ?_ ?_ ?_ ?_ ?_ ?_ ?_
  iterate 6 simp only[go_sem]
  .intro m n ds c e f g k d j l i _;rw[gb];exact r b m n ds c 5 w k d j aa i e f g
 .simp(disch:=omega)only[go_sem,df,aK,iG,yc];refine Lc a b o p aa aa 5 _ _ _ (.known (af a+1)) ?_ ?_ ?_ ?_ ?_ ?_ ?_
  iterate 6 simp only[go_sem]
  .intro m n ds c e f g k d j l i _;rw[gb];exact r a m n ds c 5 u k d j l i e f g
theorem AD:pC (rH .u64) (eR .u64) a=(a:Int):=rfl
def wR(h:a<18446744073709551616):iy (eR .u64) (a:Int)=a:=jR h
def F6(h:a<18446744073709551616):ga (gp .and) [aC a,aC 1]=some (.val (aC (a%2:Nat))):=by show some (bh.val (aC (pC (rH .u64) (eR .u64) (Nat.land (iy (eR .u64) (a:Int)) (iy (eR .u64) 1)))))=_;rw[wR h,AD,show iy (eR .u64) 1=1 from rfl];exact congrArg (λm:Nat=>some (bh.val (aC m))) (Nat.and_one_is_mod a)
theorem avc(x y:av)(U:aG x)(V:aG y)(hl:af y<=af x)(hs:af x<4294967295)(b:Nat)(F:Fr)(H:ah)(R:b5)(c:Cap)
 (A:rd 0 F=mag x) (B:rd 1 F=mag y) (C:rd 5 F=.slice b 0 (af x) c) (D:rd 6 F=aC 0) (E:rd 7 F=aj 0) (L:H.get b=an (bC (aZ (af x) 0)) 0)
 (M:∀r t ds a,rd 5 r=.slice b 0 (af x) c->a<=1->af ds=af x->aG ds->val x+4294967296^(af x)*a=val ds+val y->t.get b=an (bC ds) 0->R (.exit 0) r t):
 bK (.loop (pc 149 2)) R F H:=by
 refine b8 (λk d f=>∃ds a,rd 0 d=mag x/\rd 1 d=mag y/\rd 5 d=.slice b 0 (af x) c/\rd 6 d=aC (a:Nat)/\rd 7 d=aj (af ds:Nat)/\a<=1/\k=af x-af ds/\af ds<=af x/\aG ds/\
  val (x.take (af ds))+4294967296^(af ds)*a=val ds+val (y.take (af ds))/\f.get b=an (bC (ds++aZ (af x-af ds) 0)) 0) (af x) ⟨[],0,A,B,C,D,E,aa,rfl,cj _,aG.nil,rfl,L⟩ ?_
 rintro k d f ⟨ds,a,g,i,h,u,o,N,rfl,X,z,w,j⟩;simp only[aai,aah,aag];by_cases hi:af ds<af x
 .obtain⟨m,P⟩:∃m,af x-af ds=m+1:=⟨af x-af ds-1,aa⟩;have ac:=U.getD (af ds);have W:=V.getD (af ds);rw[P]at j⊢;have Z:af (bC (ds++aZ (m+1) 0))=af ds+m+1:=by simp[iT];omega
  have v:∀(e:Fr) (s n:Nat),s<18446744073709551616->n<4294967296->(x.getD (af ds) 0+4294967296*(s/4294967296%2)=s%4294967296+a+n)->rd 0 e=mag x->rd 1 e=mag y->rd 5 e=.slice b 0 (af x) c->rd 6 e=aC (s/4294967296%2:Nat)->rd 7 e=aj (((af ds:Nat):Int)+1)->
   val (y.take (af ds+1))=val (y.take (af ds))+4294967296^(af ds)*n->
   qT (λk d f=>∃ds a,rd 0 d=mag x/\rd 1 d=mag y/\rd 5 d=.slice b 0 (af x) c/\rd 6 d=aC (a:Nat)/\rd 7 d=aj (af ds:Nat)/\a<=1/\k=af x-af ds/\af ds<=af x/\aG ds/\
    val (x.take (af ds))+4294967296^(af ds)*a=val ds+val (y.take (af ds))/\f.get b=an (bC (ds++aZ (af x-af ds) 0)) 0) (m+1) e (f.set b (an (bC ((ds++aZ (m+1) 0).set (af ds) (s%4294967296))) 0)):=by
   intro e s n l ad Y G I J K bp T;refine⟨m,aa,ds++[s%4294967296],s/4294967296%2,G,I,J,K,?_,aa,?_,?_,z.app (.mk aa aG.nil),?_,?_⟩
   .rw[bp];simp
   .simp;omega
   .simp;omega
   .rw[gi];simp only[bw,iA,dX,val,gj,dG];rw[T,rM hi]
    grind
   .rw[ah.aT,ay rfl,TF];have:af x-af (ds++[s%4294967296])=m:=e7;rw[this]
  by_cases O:af ds<af y
  .obtain⟨s,S,l,q⟩:∃s:Nat,((((x.getD (af ds) 0:Nat):Int)-(a:Int))%18446744073709551616-((y.getD (af ds) 0:Nat):Int))%18446744073709551616=(s:Int)/\s<18446744073709551616/\x.getD (af ds) 0+4294967296*(s/4294967296%2)=s%4294967296+a+y.getD (af ds) 0:=by refine⟨((((x.getD (af ds) 0:Nat):Int)-(a:Int)-((y.getD (af ds) 0:Nat):Int))%18446744073709551616).toNat,?_,?_,?_⟩<;>omega
   simp(disch:=omega)only[go_sem,g,i,h,u,o,dt,kB,cH,iK,cz,hN,aK,S,sI,pU,ru,F6,j,fE,n4];refine v _ s (y.getD (af ds) 0) l W q ?_ ?_ ?_ ?_ ?_ (rM O)
   iterate 5 simp only[go_sem,g,i,h]
  .obtain⟨s,Q,l,q⟩:∃s:Nat,(((x.getD (af ds) 0:Nat):Int)-(a:Int))%18446744073709551616=(s:Int)/\s<18446744073709551616/\x.getD (af ds) 0+4294967296*(s/4294967296%2)=s%4294967296+a+0:=by refine⟨((((x.getD (af ds) 0:Nat):Int)-(a:Int))%18446744073709551616).toNat,?_,?_,?_⟩<;>omega
   simp(disch:=omega)only[go_sem,g,i,h,u,o,dt,df,kB,cH,iK,cz,hN,aK,Q,sI,pU,ru,F6,j,fE,n4];refine v _ s 0 l aa q ?_ ?_ ?_ ?_ ?_ ?_
   iterate 5 simp only[go_sem,g,i,h]
   grind [dr]
 .have p:af ds=af x:=aa;simp(disch:=omega)only[go_sem,g,o,df];refine M _ _ ds a ?_ N p z ?_ ?_
  .simp only[go_sem,h]
  .rw[p,dr (aJ _),dr hl]at w;exact w
  .rw[j,p];simp
theorem T'(a b:av)(k:aG a)(l:aG b)(hl:af b<=af a)(s:val b<=val a)(m:af a<4294967295):bm 149 [mag a,mag b] (mag (aU (val a-val b))):=by
 refine rB (R:=λv=>v=_) (.f2 (lE _) (lE _)) (dD.mono (Q:=λv _=>v=mag (aU (val a-val b))) (λv p h=>⟨v,.same v,by rw[h];exact lE _,h⟩) ?_);refine bg anH ?_;simp only[d149,aam,aal,aak,aaj];simp(disch:=omega)only[go_sem,iG,yc];refine avc a b k l hl m 5 _ _ _ (.known (af a)) ?_ ?_ ?_ ?_ ?_ ?_ ?_
 iterate 6 simp only[go_sem]
 .intro n o ds c g q e f r d;simp only[go_sem,g];have j:=iz f;have i:c=0:=by
   rw[e]at j;rcases rY 0 c with h2|h2
   .grind
   .omega
  subst i;refine kV (vu ds aa) d ⟨0,_,_,fj.2 rfl⟩ (.f1 (wg d jE e)) ?_;simp only[go_sem];rw[sR f];congr 2;omega
theorem B0:((2^ej 32 (h_ .u64):Nat):Int)=4294967296:=rfl
theorem t_(a b:Nat):mP (a:Int) (b:Int)=((a/b:Nat):Int):=rfl
theorem z3(a b:Nat):oB (a:Int) (b:Int)=((a%b:Nat):Int):=rfl
def BA(h:a<4294967296/\d<4294967296):ga (gp .or) [aC ((a:Int)*4294967296),aC d]=some (.val (aC (a*4294967296+d:Nat))):=by have e:((a:Int)*4294967296)=((a*4294967296:Nat):Int):=aa;rw[e];show some (bh.val (aC (pC (rH .u64) (eR .u64) (Nat.lor (iy (eR .u64) ((a*4294967296:Nat):Int)) (iy (eR .u64) (d:Int))))))=_;rw[wR aa,wR aa,AD];refine congrArg (λm:Nat=>some (bh.val (aC m))) ?_;have b:=Nat.shiftLeft_add_eq_or_of_lt (i:=32) (show d<2^32 from h.2) a;rw[Nat.shiftLeft_eq]at b;exact b.symm
def aja(h:a<af g):val (g.drop a)=g.getD a 0+4294967296*val (g.drop (a+1)):=by rw[mQ h,bT,c4 h];rfl
def J5(i v:Nat)(a:av):(aZ (i+1) 0++a).set i v=aZ i 0++v::a:=by rw[List.replicate_succ',gX,List.set_append_right _ _ aI];simp
def TV(a:av)(d:Nat)(z:aG a)(f:0<d/\d<4294967296)(J:af a<4294967295):bm 118 [mag a,.int .u32 (d:Int)] (.aH [mag (aU (val a/d)),.int .u32 ((val a%d:Nat):Int)]):=by
 refine rB (R:=λv=>v=_) (.f2 (lE _) .ii) (dD.mono (Q:=λv _=>v=.aH [mag (aU (val a/d)),.int .u32 ((val a%d:Nat):Int)]) (λv g h=>⟨v,.same v,by rw[h];exact .aH (.f2 (lE _) .ii),h⟩) ?_);refine bg anx ?_;simp only[d118,Y8,Y7,Y6,Y5];simp(disch:=omega)only[go_sem,iG,yc,aK];refine b8 (λk c g=>∃(j r:Nat) (b:av),rd 0 c=mag a/\rd 1 c=.int .u32 (d:Int)/\rd 6 c=.slice 5 0 (af a) (.known (af a))/\rd 7 c=aC r/\rd 8 c=aj ((j:Int)-1)/\k=j/\j<=af a/\aG b/\af b=af a-j/\r<d/\val b*d+r=val (a.drop j)/\g.get 5=an (bC (aZ j 0++b)) 0) (af a) ⟨af a,0,[],?_,?_,?_,?_,?_,rfl,aJ _,aG.nil,aI,f.1,by simp[val],?_⟩ ?_
 iterate 3 simp only[go_sem]
 .simp only[go_sem];rfl
 .simp only[go_sem]
 .simp only[go_sem];simp
 rintro j c g ⟨_,r,b,p,s,l,t,u,rfl,F,y,hl,n,o,e⟩;simp only[Y4,Y3,Y2];cases j with
 |zero=>simp(disch:=omega)only[go_sem,l,u,dt];have B:af b=af a:=aa;rw[qL,fS]at e;refine kV (vu b aa) e ⟨0,_,_,fj.2 rfl⟩ (.f1 (wg e jE B)) ?_;simp(disch:=omega)only[go_sem,t,iU];rw[List.drop_zero]at o;rw[sR y,<-o,dy (val b) d,Nat.mul_add_mod,jR n,Nat.mul_add_div f.1,mw n,dG]
 |succ i=>
  have A:i<af a:=aa;have I:=z.getD i;have hi:(((i+1:Nat):Int)-1).toNat=i:=aa;have x:(r*4294967296+a.getD i 0)/d<4294967296:=by rw[s8 f.1];have:(r+1)*4294967296<=d*4294967296:=ei _ n;rw[dy d]at this;omega
  have w:=fD (r*4294967296+a.getD i 0) f.1;have m:=kj (r*4294967296+a.getD i 0) d;generalize C:(r*4294967296+a.getD i 0)/d=q at x m
  generalize D:(r*4294967296+a.getD i 0)%d=E at w m
  have G:af (bC (aZ (i+1) 0++b))=af a:=by rw[iT];simp;omega
  have H:((d:Nat):Int)≠0:=aa;simp(disch:=omega)only[go_sem,p,s,l,t,u,df,kB,cH,hi,iK,B0,cz,aK,BA,j5,nY,t_,z3,C,D,iU,e,fE,n4,J5];refine⟨i,aa,i,E,q::b,?_,?_,?_,?_,?_,rfl,aa,.mk x y,by simp;omega,w,?_,?_⟩
  iterate 4 simp only[go_sem,p,s,l]
  .simp only[go_sem];congr 1;omega
  .rw[aja A,<-o];simp only[val];rw[dy d]at m;rw[fT,dx,dL];omega
  .rw[ah.aT,ay rfl]
def sW:∀ {l:av}{p v:Nat},p<af l->val (l.set p v)+4294967296^p*l.getD p 0=val l+4294967296^p*v
 |[],_,_,h=>absurd h (nP _)
 |d::l,0,v,_=>by simp[val];omega
 |d::l,p+1,v,h=>by have a:=sW (l:=l) (p:=p) (v:=v) (by simpa using h);have e:(d::l).getD (p+1) 0=l.getD p 0:=aI;rw[e];simp only[List.set_cons_succ,val,dX];rw[xk,xk _ _ v];omega
def rA(h:aG g){p v:Nat}(b:v<4294967296):aG (g.set p v):=λx a=>by
 rcases yF a with a|rfl
 .exact h x a
 .exact b
def getD_set_ne{v:Nat}(h:a≠d):(g.set a v).getD d 0=g.getD d 0:=by simp[bT,h]
def Eo(b:a<4294967296)(c:d<4294967296):a*d<=18446744065119617025:=by have:=iP (aa:a<=4294967295) (aa:d<=4294967295);omega
def aq4(a b:av)(S:aG a)(T:aG b)(i n j:Nat)(hi:i<af a)(hn:n=af a+af b)(hs:n<4294967295)(c:Cap)(F:Fr)(H:ah)(R:b5)(g:av)
 (E:rd 0 F=mag a) (G:rd 1 F=mag b) (I:rd 5 F=.slice 5 0 n c) (J:rd 6 F=aj i) (K:rd 7 F=aC 0) (M:rd 8 F=aj 0) (N:H.get 5=an (bC g) 0) (O:g.length=n) (ap:aG g) (ad:val g=j) (am:∀p,i+af b<=p->g.getD p 0=0)
 (P:∀f u L d,rd 0 f=mag a->rd 1 f=mag b->rd 5 f=.slice 5 0 n c->rd 6 f=aj i->rd 7 f=aC (d:Nat)->d<4294967296->L.length=n->aG L->(∀p,i+af b<=p->L.getD p 0=0)->val L+4294967296^(i+af b)*d=j+4294967296^i*(a.getD i 0*val b)->u.get 5=an (bC L) 0->R (.exit 2) f u):
 bK (.loop (pc 150 2)) R F H:=by
 refine b8 (λm e v=>∃(k d:Nat) (L:av),rd 0 e=mag a/\rd 1 e=mag b/\rd 5 e=.slice 5 0 n c/\rd 6 e=aj i/\rd 7 e=aC (d:Nat)/\rd 8 e=aj k/\d<4294967296/\m=af b-k/\k<=af b/\L.length=n/\aG L/\(∀p,i+af b<=p->L.getD p 0=0)/\
  val L+4294967296^(i+k)*d=j+4294967296^i*(a.getD i 0*val (b.take k))/\v.get 5=an (bC L) 0) (af b) ⟨0,0,g,E,G,I,J,K,M,aa,rfl,cj _,O,ap,am,by simp[val,ad],N⟩ ?_
 rintro m e v ⟨k,d,L,l,h,o,r,w,x,V,rfl,hk,hl,t,D,C,y⟩;simp only[aap,aao,aan];by_cases X:k<af b
 .have ae:=S.getD i;have al:=T.getD k;have a3:=t.getD (i+k);have Z:=Eo ae al;have a1:af (bC L)=n:=by rw[iT,hl]
  have W:((i:Int)+(k:Int)).toNat=i+k:=aa;have B:=sW (l:=L) (p:=i+k) (v:=(d+(a.getD i 0*b.getD k 0+L.getD (i+k) 0))%4294967296) aa;have A:((a.getD i 0:Nat):Int)*((b.getD k 0:Nat):Int)=((a.getD i 0*b.getD k 0:Nat):Int):=by rw[fF]
  have U:val (b.take (k+1))=val (b.take k)+4294967296^k*b.getD k 0:=rM X;have z:4294967296^i*(a.getD i 0*(val (b.take k)+4294967296^k*b.getD k 0))=4294967296^i*(a.getD i 0*val (b.take k))+4294967296^(i+k)*(a.getD i 0*b.getD k 0):=by rw[dL,dL,iB,Nat.mul_left_comm (a.getD i 0),dx]
  generalize a.getD i 0*b.getD k 0=p at Z B A z
  have ac:(d:Int)+((p:Int)+((L.getD (i+k) 0:Nat):Int))=((d+(p+L.getD (i+k) 0):Nat):Int):=aa;simp(disch:=omega)only[go_sem,l,h,o,r,w,x,dt,kB,cH,W,iK,cz,aK,A,ac,sI,pU,ru,y,fE,n4];refine⟨af b-(k+1),aa,k+1,(d+(p+L.getD (i+k) 0))/4294967296,L.set (i+k) ((d+(p+L.getD (i+k) 0))%4294967296),?_,?_,?_,?_,?_,?_,aa,rfl,aa,by rw[iO,hl],rA t aa,λq hq=>by rw[getD_set_ne aa];exact D q hq,?_,?_⟩
  iterate 5 simp only[go_sem,l,h,o,r]
  .simp only[go_sem];congr 1
  .rw[U,z];generalize Q:d+(p+L.getD (i+k) 0)=s at B
   have h3:4294967296^(i+k)*s=4294967296^(i+k)*(s%4294967296)+4294967296^(i+(k+1))*(s/4294967296):=by rw[show i+(k+1)=i+k+1 from rfl,dX,dx,<-dL,Nat.mod_add_div]
   have h4:4294967296^(i+k)*s=4294967296^(i+k)*d+(4294967296^(i+k)*p+4294967296^(i+k)*L.getD (i+k) 0):=by rw[<-Q,dL,dL]
   omega
  .rw[ah.aT,ay rfl]
 .have Y:k=af b:=aa;subst Y;simp(disch:=omega)only[go_sem,h,x,df];rw[dr (aJ _)]at C;refine P _ _ L d ?_ ?_ ?_ ?_ ?_ V hl t D C y
  iterate 5 simp only[go_sem,l,h,o,r,w]
def SH(n:Nat):aG (aZ n 0):=λx a=>by have:=List.eq_of_mem_replicate a;omega
def UC(n:Nat):val (aZ n 0)=0:=by
 induction n with
 |zero=>rfl
 |succ n a=>simp[qK,val,a]
def aq2(a b:av)(E:aG a)(F:aG b)(J:af a+af b<4294967295):bm 150 [mag a,mag b] (mag (aU (val a*val b))):=by
 refine rB (R:=λv=>v=_) (.f2 (lE _) (lE _)) (dD.mono (Q:=λv _=>v=mag (aU (val a*val b))\/(v=.aA/\aU (val a*val b)=[])) (λv d h=>?_) ?_)
 .rcases h with h|⟨h,C⟩
  .exact⟨v,.same v,by rw[h];exact lE _,h⟩
  .refine⟨mag [],by rw[h];exact .gK,lE _,by rw[C]⟩
 refine bg anJ ?_;simp only[d150,aaw,aav,aau,aat];by_cases O:af a=0
 .have x:a=[]:=pn O;simp(disch:=omega)only[go_sem,dt];refine .inr ⟨trivial,?_⟩;rw[x];simp[val,kz]
 by_cases P:af b=0
 .have y:b=[]:=pn P;simp(disch:=omega)only[go_sem,dt,df];refine .inr ⟨trivial,?_⟩;rw[y];simp[val,kz]
 have K:((af a:Int)+(af b:Int)).toNat=af a+af b:=aa;simp(disch:=omega)only[go_sem,df,aK,iG,yc,K]
 refine b8 (λm c d=>∃(i:Nat) (L:av),rd 0 c=mag a/\rd 1 c=mag b/\rd 5 c=.slice 5 0 (af a+af b) (.known (af a+af b))/\rd 6 c=aj i/\m=af a-i/\i<=af a/\L.length=af a+af b/\aG L/\(∀p,i+af b<=p->L.getD p 0=0)/\val L=val (a.take i)*val b/\d.get 5=an (bC L) 0) (af a)
  ⟨0,aZ (af a+af b) 0,?_,?_,?_,?_,rfl,cj _,aI,SH _,?_,?_,?_⟩ ?_
 iterate 3 simp only[go_sem]
 .simp only[go_sem];rfl
 .intro p _;simp only[bT,yE];split<;>rfl
 .rw[UC];simp[val]
 .simp only[go_sem]
 rintro m c d ⟨i,L,f,z,l,g,rfl,hi,hl,w,N,t,j⟩;simp only[aas,aar,aaq];by_cases q:i<af a
 .simp(disch:=omega)only[go_sem,f,g,dt];refine aq4 a b E F i (af a+af b) (val (a.take i)*val b) q rfl J (.known (af a+af b)) _ _ _ L ?_ ?_ ?_ ?_ ?_ ?_ j hl w t N ?_
  iterate 6 simp only[go_sem,f,z,l,g]
  intro R S e k A n o B bp G r Q u M D;have T:af (bC e)=af a+af b:=by rw[iT,r]
  have H:((i:Int)+(af b:Int)).toNat=i+af b:=aa;have s:=sW (l:=e) (p:=i+af b) (v:=k) aa;rw[u _ (aJ _),gj,dG]at s;simp(disch:=omega)only[go_sem,n,o,B,bp,cH,H,iU,aK,D,fE,n4];refine⟨af a-(i+1),aa,i+1,e.set (i+af b) k,?_,?_,?_,?_,rfl,aa,by rw[iO,r],rA Q G,λp U=>by rw[getD_set_ne aa];exact u p aa,?_,?_⟩
  iterate 3 simp only[go_sem,A,n,o]
  .simp only[go_sem];congr 1
  .rw[s,M,rM q,fT,dx]
  .rw[ah.aT,ay rfl]
 .have I:i=af a:=aa;subst I;simp(disch:=omega)only[go_sem,f,l,g,df];refine kV (vu L aa) j ⟨0,_,_,fj.2 rfl⟩ (.f1 (wg j jE hl)) ?_;simp only[go_sem];rw[sR w,t,dr (aJ _)];exact .inl rfl
def e_(z:Int):au:=[.bool (decide (z<0)),mag (aU z.natAbs)]
def dP(z:Int):V:=.agg (e_ z)
def aj2(z:Int):ct (e_ z):=.f2 .bb (lE _)
def ld(z:Int):bA (dP z):=.agg (aj2 z)
def eY(n:Nat):Prop:=n<4294967296^1000000
def eY.len(h:eY a):af (aU a)<=1000000:=AT h
def uP(n:Nat):0<af (aU n)↔n≠0:=by
 constructor
 .intro h e;rw[e,kz]at h;exact absurd h (Nat.lt_irrefl _)
 .intro h;rw[qf h];exact mA _
def Ec{a:Nat}(h:a<=d):af (aU a)<=af (aU d):=by
 by_cases e:aU d=[]
 .have:=gU d;rw[e]at this;have b:a=0:=by simp[val]at this;omega
  rw[b,kz];exact cj _
 .refine AT (fu h ?_);have:=iz (iX d);rwa[gU]at this
def vf(s:Bool)(n:Nat):bm 86 [.bool s,mag (aU n)] (dP (if s then-(n:Int)else n)):=by
 have h:=aqz s (af (aU n)) (bC (aU n)) (Qh _);have e:V.agg [.bool (s&&decide (0<af (aU n))),.row (af (aU n)) (bC (aU n))]=dP (if s then-(n:Int)else n):=by
  unfold dP e_ mag;have a:(if s then-(n:Int)else n).natAbs=n:=by cases s<;>simp
  have b:decide ((if s then-(n:Int)else n)<0)=(s&&decide (0<af (aU n))):=by
   cases s
   .simp
   .rw[Bool.true_and];refine decide_eq_decide.2 ?_;rw[uP];simp;omega
  rw[a,b]
 rw[<-e];exact h
def I4(z:Int):bm 82 [dP z] (dP (-z)):=by
 refine dM (.f1 (ld _)) (ld _) (bg apu ?_);simp only[go_sem,d82,aii,dP,e_];refine use (vf _ _) ?_;simp only[go_sem,dP,e_];have:(if(!decide (z<0))=true then-((z.natAbs:Nat):Int)else(z.natAbs:Int))= -z:=by
  by_cases h:z<0
  .simp[h];omega
  .simp[h];omega
 rw[this]
def auf(z:Int):bm 96 [dP z] (aj (if z<0 then-1 else if z=0 then 0 else 1)):=by
 refine dM (.f1 (ld _)) (.int _ _) (bg apE ?_);have hl:=uP z.natAbs;by_cases h:z<0
 .simp(disch:=omega)only[go_sem,d96,HI,HH,dP,e_,dt];simp[h]
 .by_cases a:z=0
  .subst a;have b:af (aU (0:Int).natAbs)=0:=by rw[show(0:Int).natAbs=0 from rfl,kz];rfl
   simp(disch:=omega)only[go_sem,d96,HI,HH,dP,e_,dt,df,b];simp
  .have c:0<af (aU z.natAbs):=hl.2 aa;simp(disch:=omega)only[go_sem,d96,HI,HH,dP,e_,df];simp[h,a]
def K_(x y:Int)(l:eY x.natAbs)(m:eY y.natAbs):bm 88 [dP x,dP y] (dP (x+y)):=by
 have q:=l.len;have r:=m.len;refine dM (.f2 (ld _) (ld _)) (ld _) (bg apA ?_);have d:=Vw (aU x.natAbs) (aU y.natAbs) (iX _) (iX _) aa aa;have c:=MO (aU x.natAbs) (aU y.natAbs) (iX _) (iX _) (rJ _) (rJ _) aa aa;rw[gU,gU]at d c;have j:y.natAbs<=x.natAbs->bm 149 [mag (aU x.natAbs),mag (aU y.natAbs)] (mag (aU (x.natAbs-y.natAbs))):=λh=>by have:=T' (aU x.natAbs) (aU y.natAbs) (iX _) (iX _) (Ec h) (by rw[gU,gU];exact h) aa;rwa[gU,gU]at this
 have k:x.natAbs<=y.natAbs->bm 149 [mag (aU y.natAbs),mag (aU x.natAbs)] (mag (aU (y.natAbs-x.natAbs))):=λh=>by have:=T' (aU y.natAbs) (aU x.natAbs) (iX _) (iX _) (Ec h) (by rw[gU,gU];exact h) aa;rwa[gU,gU]at this
 have n:∀s:Bool,decide (x<0)=s->decide (y<0)=s->(if s then-((x.natAbs+y.natAbs:Nat):Int)else((x.natAbs+y.natAbs:Nat):Int))=x+y:=by
  intro s a b;cases s
  .simp at a b⊢;omega
  .simp at a b⊢;omega
 by_cases h:decide (x<0)=decide (y<0)
 .generalize g:decide (x<0)=s at h
  have e:=n s g h.symm;simp only[go_sem,d88,HG,HF,HE,dP,e_,g,<-h,beq_self_eq_true];refine use d ?_;simp only[go_sem,true_and];refine use (vf _ _) ?_;simp only[go_sem,dP,e_];rw[e]
 .have f:(decide (x<0)==decide (y<0))=false:=by simpa using h
  by_cases i:y.natAbs<=x.natAbs
  .have o:¬pE x.natAbs y.natAbs<0:=by
    unfold pE;split
    .omega
    .split<;>omega
   simp(disch:=omega)only[go_sem,d88,HG,HF,HE,dP,e_,f];refine use c ?_;simp(disch:=assumption)only[go_sem,df];refine use (j i) ?_;simp only[go_sem,true_and];refine use (vf _ _) ?_;simp only[go_sem,dP,e_];have e:(if decide (x<0)=true then-((x.natAbs-y.natAbs:Nat):Int)else((x.natAbs-y.natAbs:Nat):Int))=x+y:=by by_cases a:x<0<;>by_cases b:y<0<;>simp[a,b]at h⊢ <;>omega
   rw[e]
  .have p:pE x.natAbs y.natAbs<0:=by unfold pE;rw[ay aa];decide
   simp(disch:=omega)only[go_sem,d88,HG,HF,HE,dP,e_,f];refine use c ?_;simp(disch:=assumption)only[go_sem,dt];refine use (k aa) ?_;simp only[go_sem,true_and];refine use (vf _ _) ?_;simp only[go_sem,dP,e_];have e:(if decide (y<0)=true then-((y.natAbs-x.natAbs:Nat):Int)else((y.natAbs-x.natAbs:Nat):Int))=x+y:=by by_cases a:x<0<;>by_cases b:y<0<;>simp[a,b]at h⊢ <;>omega
   rw[e]
def zF(x y:Int)(d:eY x.natAbs)(f:eY y.natAbs):bm 89 [dP x,dP y] (dP (x*y)):=by
 have g:=d.len;have h:=f.len;refine dM (.f2 (ld _) (ld _)) (ld _) (bg apB ?_);have a:=aq2 (aU x.natAbs) (aU y.natAbs) (iX _) (iX _) aa;rw[gU,gU]at a;simp only[go_sem,d89,aiv,dP,e_];refine use a ?_;simp only[go_sem,true_and];refine use (vf _ _) ?_;simp only[go_sem,dP,e_];have e:(if(!(decide (x<0)==decide (y<0)))=true then-((x.natAbs*y.natAbs:Nat):Int)else((x.natAbs*y.natAbs:Nat):Int))=x*y:=by
  rw[fF];by_cases b:x<0<;>by_cases c:y<0<;>simp only[b,c,decide_true,decide_false,L3,L2,L1,L0,I8,nf,↓reduceIte,jk]
  .rw[(aa:((x.natAbs:Nat):Int)= -x),(aa:((y.natAbs:Nat):Int)= -y),Int.neg_mul_neg]
  .rw[(aa:((x.natAbs:Nat):Int)= -x),(aa:((y.natAbs:Nat):Int)=y),Int.neg_mul,Int.neg_neg]
  .rw[(aa:((x.natAbs:Nat):Int)=x),(aa:((y.natAbs:Nat):Int)= -y),Int.mul_neg,Int.neg_neg]
  .rw[(aa:((x.natAbs:Nat):Int)=x),(aa:((y.natAbs:Nat):Int)=y)]
 rw[e]
def avL(h:a<18446744073709551616):trim [a%4294967296,a/4294967296%4294967296]=aU a:=by rw[sR (.mk aa (.mk aa aG.nil))];congr 1;simp[val];omega
def tG(n:Int)(h: -9223372036854775808<=n/\n<9223372036854775808):bm 36 [aj n] (dP n):=by
 refine dM (.f1 .ii) (ld _) (bg ao4 ?_)
 have key:∀(s:Bool) (k:Nat) (F:Fr) (H:ah),k<18446744073709551616->(if s then-(k:Int)else k)=n->rd 11 F=.bool s->rd 2 F=.ptr 5 0->H.get 5=an [aR,.aA] 0->H.get 6=an (bC [k%4294967296,k/4294967296%4294967296]) 0->
  qH e9 5 (some 18) (k5 e9 5 [ex 19 (bU 86 [(rd 11),(rd 18)]),bD (st 2 (rd 2) (rd 19))] (gy (bK .ret (gC [.cell 2 true 2] λv _=>v=dP n)) (gC [.cell 2 true 2] λv _=>v=dP n) .norm)) F H (some (.fn 87,[.slice 6 0 2 (.known 2)])):=by
  intro s k F H f e b c d a;refine kV (args2:=[mag [k%4294967296,k/4294967296%4294967296]]) (vu _ aI) a ⟨0,_,_,fj.2 rfl⟩ (.f1 (wg a jE rfl)) ?_;rw[avL f];simp only[go_sem,b];refine use (vf _ _) ?_;simp only[go_sem,dP,e_,c,d];rw[e]
 by_cases i:n<0
 .obtain⟨k,rfl⟩:∃k:Nat,n= -(k:Int):=⟨n.natAbs,aa⟩;have g:aE .u64 (-(aE .u64 (-(k:Int))))=(k:Int):=by rw[hN,hN];omega
  simp(disch:=omega)only[go_sem,d36,O8,O7,O6,dt,g,pU,ru,sI];refine key true k _ _ aa rfl ?_ ?_ ?_ ?_
  all_goals simp only[go_sem]
  rfl
 .obtain⟨k,rfl⟩:∃k:Nat,n=(k:Int):=⟨n.natAbs,aa⟩;simp(disch:=omega)only[go_sem,d36,O8,O7,O6,df,cz,pU,ru,sI];refine key false k _ _ aa rfl ?_ ?_ ?_ ?_
  all_goals simp only[go_sem]
  rfl
def eK(t:Nat):Nat:=if h:t=0 then 0 else 1+eK (t/2)
termination_by t
decreasing_by omega
def AE:eK 0=0:=by rw[eK];simp
def xB(h:a≠0):eK a=1+eK (a/2):=by rw[eK];simp[h]
def Wh{t:Nat}(k:Nat)(h:t<2^k):eK t<=k:=by
 induction k generalizing t with
 |zero=>have:t=0:=by simpa using h
        rw[this,AE];exact aJ _
 |succ k a=>
  by_cases e:t=0
  .rw[e,AE];exact cj _
  .rw[xB e];have:=a (t:=t/2) (by rw[dX]at h;omega);omega
def L8:eK a=1↔a=1:=by
 constructor
 .intro h;by_cases e:a=0
  .rw[e,AE]at h;cases h
  .rw[xB e]at h;by_cases b:a/2=0
   .omega
   .rw[xB b]at h;omega
 .intro h;rw[h,xB aa];rw[show 1/2=0 from rfl,AE]
def ry(n:Nat):Nat:=if n=0 then 0 else 32*(af (aU n)-1)+eK ((aU n).getD (af (aU n)-1) 0)
def Ks(h:a≠0):(aU a).getD (af (aU a)-1) 0≠0:=by have hl:=(uP a).2 h;have hi:af (aU a)-1<af (aU a):=aa;intro e;refine rJ a ?_;rw[List.getLast?_eq_getElem?,c4 hi];rw[bT,c4 hi]at e;exact congrArg some e
def Sw{n:Nat}:ry n=1↔n=1:=by
 unfold ry;by_cases h:n=0
 .simp[h]
 .rw[ao h];have f:=Ks h;have hl:=(uP n).2 h;constructor
  .intro e;have g:eK ((aU n).getD (af (aU n)-1) 0)≠0:=by rw[xB f];omega
   have b:af (aU n)-1=0:=aa;rw[b]at e;have c:=L8.1 (aa:eK ((aU n).getD 0 0)=1);have d:=gU n
   match a:aU n with
   |[]=>rw[a]at hl;exact absurd hl (Nat.lt_irrefl _)
   |[x]=>rw[a]at d c;simp[val]at d c;omega
   |_::_::_=>rw[a]at b;simp at b
  .intro e;subst e;have a:aU 1=[1]:=by rw[qf aa];simp[kz]
   rw[a];simp[L8.2 rfl]
def ard{n:Nat}:ry n=0↔n=0:=by
 unfold ry;by_cases h:n=0
 .simp[h]
 .rw[ao h];have a:eK ((aU n).getD (af (aU n)-1) 0)≠0:=by rw[xB (Ks h)];omega
  omega
theorem at7(n:Nat):tU (n:Int) (ej 1 (h_ .u32))=((n/2:Nat):Int):=rfl
def L6(z:Int)(o:eY z.natAbs):bm 84 [dP z] (aj (ry z.natAbs:Int)):=by
 have hl:=o.len;refine dM (.f1 (ld _)) (.int _ _) (bg apw ?_);by_cases a:z.natAbs=0
 .have i:af (aU z.natAbs)=0:=by rw[a,kz];rfl
  simp(disch:=omega)only[go_sem,d84,Pm,Pk,Pj,Ph,dP,e_,dt];rw[ry,ay a];rfl
 .have i:=(uP z.natAbs).2 a;have hi:((af (aU z.natAbs):Int)-1).toNat=af (aU z.natAbs)-1:=aa;have n:=(iX z.natAbs).getD (af (aU z.natAbs)-1);have j:=Wh 32 n;simp(disch:=omega)only[go_sem,d84,Pm,Pk,Pj,Ph,dP,e_,df,aK,kB,hi,iK];have l:ry z.natAbs=32*(af (aU z.natAbs)-1)+eK ((aU z.natAbs).getD (af (aU z.natAbs)-1) 0):=by rw[ry,ao a]
  refine b8 (λk b h=>∃t m:Nat,rd 4 b=.int .u32 (t:Int)/\rd 3 b=aj m/\m+eK t=ry z.natAbs/\eK t<=32/\k=t) ((aU z.natAbs).getD (af (aU z.natAbs)-1) 0) ⟨_,32*(af (aU z.natAbs)-1),?_,?_,l.symm,j,rfl⟩ ?_
  .simp only[go_sem]
  .simp only[go_sem];congr 1;omega
  rintro t b h ⟨_,m,d,c,f,p,rfl⟩;simp only[air,aiq,aip];have q:ry z.natAbs<=32000032:=aa;by_cases g:t=0
  .subst g;simp(disch:=omega)only[go_sem,c,d,df];rw[AE]at f;rw[<-f];rfl
  .have e:=xB g;simp(disch:=omega)only[go_sem,c,d,dt,aK,at7];refine⟨t/2,aa,t/2,m+1,?_,?_,aa,aa,rfl⟩
   .simp only[go_sem]
   .simp only[go_sem];congr 1
def lM{a:Nat}(h:a<=d):ej a d=a:=by unfold ej;rw[lD h]
def SN{y:Nat}(h:a<4294967296/\y<4294967296):ga (gp .or) [.int .u32 (a:Int),.int .u32 (y:Int)]=some (.val (.int .u32 ((a|||y:Nat):Int))):=by show some (bh.val (.int .u32 (pC (rH .u32) (eR .u32) (Nat.lor (iy (eR .u32) (a:Int)) (iy (eR .u32) (y:Int))))))=_;rw[show iy (eR .u32) (a:Int)=a from jR h.1,show iy (eR .u32) (y:Int)=y from jR h.2];rfl
def avK(h:a<=31):2^a<=2147483648:=iI (n:=2) aa h
def arU{x:Nat}(f:d<=31)(c:a<2^d):a|||(x*2^d)%4294967296=a+(x*2^d)%4294967296:=by
 have e:(4294967296:Nat)=2^(32-d)*2^d:=by rw[<-iB,(aa:32-d+d=32)]
 have b:(x*2^d)%4294967296=(x%2^(32-d))<<<d:=by rw[e,uD,Nat.shiftLeft_eq]
 rw[b,Nat.or_comm,<-Nat.shiftLeft_add_eq_or_of_lt c,i_]
def TH(a:av)(s:Nat)(F:aG a)(z:s<=31)(X:af a<4294967294)(H:ah):
 dm 219 [mag a,aC s] H λv b=>v=.slice H.ag 0 (af a+1) (.known (af a+1))/\b.ag=H.ag+1/\∃L,aG L/\L.length=af a+1/\val L=val a*2^s/\L.getD (af a) 0<2^s/\∀y,b.get y=if y=H.ag then an (bC L) 0 else H.get y:=by
 refine bg aoe ?_;simp(disch:=omega)only[go_sem,d219,acC,acB,acA,aK,iG,yc];have Q:=avK z;have o:0<2^s:=gE aa
 refine b8 (λk c b=>∃(i:Nat) (L:av),rd 0 c=mag a/\rd 1 c=aC s/\rd 5 c=.slice H.ag 0 (af a+1) (.known (af a+1))/\rd 6 c=aj i/\k=af a-i/\i<=af a/\aG L/\L.length=af a+1/\val L=val (a.take i)*2^s/\L.getD i 0<2^s/\(∀p,i<p->L.getD p 0=0)/\b.ag=H.ag+1/\∀y,b.get y=if y=H.ag then an (bC L) 0 else H.get y) (af a)
  ⟨0,aZ (af a+1) 0,?_,?_,?_,?_,rfl,cj _,SH _,aI,?_,?_,?_,rfl,?_⟩ ?_
 iterate 3 simp only[go_sem]
 .simp only[go_sem];rfl
 .rw[UC];simp[val]
 .simpa using o
 .intro p _;simp only[bT,yE];split<;>rfl
 .intro y;rw[ah.bl];by_cases e:y=H.ag
  .rw[ay e.symm,ay e]
  .rw[ao (λh=>e h.symm),ao e]
 rintro k c b ⟨i,L,d,l,f,m,rfl,hi,j,hl,B,t,E,r,g⟩;have G:b.get H.ag=an (bC L) 0:=by rw[g,ay rfl]
 simp only[acz,acy,acw];by_cases J:i<af a
 .have P:=F.getD i;have T:af (bC L)=af a+1:=by rw[iT,hl]
  have M:ej s (h_ .u64)=s:=lM (aa:s<=64);have C:a.getD i 0*2^s<4294967296*2^s:=qQ P o;have x:((a.getD i 0:Nat):Int)*((2^s:Nat):Int)=((a.getD i 0*2^s:Nat):Int):=by rw[fF]
  have u:=arU (x:=a.getD i 0) z t;have w:L.getD i 0|||(a.getD i 0*2^s)%4294967296<4294967296:=Nat.or_lt_two_pow (n:=32) aa aa
  have q:a.getD i 0*2^s/4294967296<2^s:=xd C;have O:=rM J;have D:(val (a.take i)+4294967296^i*a.getD i 0)*2^s=val (a.take i)*2^s+4294967296^i*(a.getD i 0*2^s):=by rw[fT,dx]
  generalize a.getD i 0*2^s=v at C x u w q D
  have N:=sW (l:=L) (p:=i) (v:=L.getD i 0|||v%4294967296) aa;have A:=sW (l:=L.set i (L.getD i 0|||v%4294967296)) (p:=i+1) (v:=v/4294967296) (by rw[iO];omega);rw[getD_set_ne aa,E _ (nO i),gj,dG]at A;have I:((i:Int)+1).toNat=i+1:=aa;have U:af (bC (L.set i (L.getD i 0|||v%4294967296)))=af a+1:=by rw[iT,iO,hl]
  have V:=j.getD i;simp(disch:=omega)only[go_sem,d,l,f,m,dt,kB,cH,I,iK,M,x,cz,aK,sI,pU,ru,SN,G,fE,n4];refine⟨af a-(i+1),aa,i+1,(L.set i (L.getD i 0|||v%4294967296)).set (i+1) (v/4294967296),?_,?_,?_,?_,rfl,aa,rA (rA j w) aa,by rw[iO,iO,hl],?_,?_,?_,r,?_⟩
  iterate 3 simp only[go_sem,d,l,f]
  .simp only[go_sem];congr 1
  .rw[O,D];have R:4294967296^i*(L.getD i 0+v%4294967296)=4294967296^i*L.getD i 0+4294967296^i*(v%4294967296):=dL _ _ _;have S:4294967296^i*v=4294967296^i*(v%4294967296)+4294967296^(i+1)*(v/4294967296):=by rw[dX,dx,<-dL,Nat.mod_add_div]
   rw[u]at N A⊢;omega
  .rw[bT,List.getElem?_set_self (by rw[iO];omega)];exact q
  .intro p W;rw[getD_set_ne aa,getD_set_ne aa];exact E p aa
  .intro y;rw[ah.aT];by_cases e:y=H.ag
   .rw[ay e.symm,ay e,jR (a:=v/4294967296) aa]
   .rw[ao (λh=>e h.symm),ao e,ah.aT,ao (λh=>e h.symm),g,ao e]
 .have K:i=af a:=aa;subst K;simp(disch:=omega)only[go_sem,d,f,m,df];rw[dr (aJ _)]at B;exact⟨trivial,r,L,j,hl,B,t,g⟩
theorem tV{s b n c:Nat}{k:IntKind}{h:Int}(a:0<=h/\h<=n/\n<=c):slice3 (kG s) false true false [.slice b 0 n (.known c),.int k h]=some (.val (.slice b 0 h.toNat (.known c))):=by
 show qA b 0 n c s none (some (.int k h))=_;unfold qA;rw[tq (l:=0) (h:=h.toNat) rfl (nr k a.1) (cj _) aa];show some (bh.val (.slice b (Bool.casesOn (motive:=λ_=>Nat) (bt c 0) (gY 0 (fz 0 s)) 0) (ko h.toNat 0) (.known (ko c 0))))=_;have:(Bool.casesOn (motive:=λ_=>Nat) (bt c 0) (gY 0 (fz 0 s)) 0)=0:=by
  cases bt c 0
  .show 0+0*s=0;omega
  .rfl
 rw[this];rfl
def Up:∀l:av,trim l=l.take (af (trim l))
 |[]=>rfl
 |d::l=>by
  have a:=Up l;unfold trim;split
  .rfl
  .simp only[dZ,List.take_succ_cons];rw[<-a]
def avJ(l f:av)(b c:Nat)(o:af l<=c)(hl:af l<4294967296)(H:ah)(g:H.get b=an (bC (l++f)) 0):
 dm 87 [.slice b 0 (af l) (.known c)] H λv d=>v=.slice b 0 (af (trim l)) (.known c)/\d=H:=by
 refine bg RM ?_;simp only[d87,Pq,Pp];simp only[go_sem];refine b8 (λk F d=>∃m,rd 0 F=.slice b 0 m (.known c)/\trim (l.take m)=trim l/\k=m/\m<=af l/\d=H) (af l) ⟨af l,by simp only[go_sem],by rw[dr (aJ _)],rfl,aJ _,rfl⟩ ?_;rintro m F d ⟨_,e,a,rfl,q,rfl⟩;simp only[Po,Pn];cases m with
 |zero=>simp(disch:=omega)only[go_sem,e,df];refine⟨?_,trivial⟩;rw[<-a];rfl
 |succ i=>
  have hi:(((i+1:Nat):Int)-1).toNat=i:=aa;have p:i<af (l++f):=e7;have j:(l++f).getD i 0=l.getD i 0:=by simp only[bT];rw[s4 aa]
  have n:l.take (i+1)=l.take i++[l.getD i 0]:=by rw[lT aa,bT,c4 aa];rfl
  rw[n]at a;by_cases h:l.getD i 0=0
  .simp(disch:=omega)only[go_sem,e,dt,aK,cH,hi,g,iK,j,tV];refine⟨i,aa,i,?_,?_,rfl,aa,rfl⟩
   .simp only[go_sem]
   .rw[h,z6]at a;exact a
  .simp(disch:=omega)only[go_sem,e,dt,df,aK,cH,hi,g,iK,j];rw[z4 _ _ h]at a;rw[<-a];simp;omega
variable{j:Fr}
theorem cX{v:V}(h:d≠a):rd a (put j (some d) v)=rd a j:=by rw[JL,ao h]
def ajL(a L:av)(n j ad z c:Nat)(al:aG a)(bb:aG L)(hn:af a=n)(b':2<=n)(hj:j+n<z)(a5:L.length=z)(b1:z<4294967295)(q s:Nat)(l G:Nat)(ch:2147483648<=a.getD (n-1) 0)
 (ba:∀h r,s=h*a.getD (n-1) 0+r->r*4294967296+L.getD (j+n-2) 0<h*a.getD (n-2) 0->q<h) (hq:q<4294967296) (ht:s<=a.getD (n-1) 0*4294967296+4294967295) (a3:s=l*a.getD (n-1) 0+G) (cd:G<a.getD (n-1) 0) (a9:q<=l)
 (F:Fr) (H:ah) (R:b5) (a2:rd 9 F=mag a) (ap:rd 10 F=.slice ad 0 z (.known c)) (ar:rd 11 F=aj n) (aw:rd 14 F=aj j) (a0:rd 16 F=aC l) (a1:rd 17 F=aC G) (M:H.get ad=an (bC L) 0)
 (N:∀I h r,(∀t,t<115->t≠16->t≠17->rd t I=rd t F)->rd 16 I=aC (h:Nat)->h<4294967296->q<=h->s=h*a.getD (n-1) 0+r->h*a.getD (n-2) 0<=r*4294967296+L.getD (j+n-2) 0->R (.exit 4) I H):
 bK (.loop (pc 146 6)) R F H:=by
 have bj:=al.getD (n-1);have ae:=al.getD (n-2);have bo:=bb.getD (j+n-2);have b0:af (bC L)=z:=by rw[iT,a5]
 have D:((n:Int)-1).toNat=n-1:=aa;have U:((n:Int)-2).toNat=n-2:=aa;have V:((j:Int)+(n:Int)-2).toNat=j+n-2:=aa;have bd:l<=4294967297:=by
  have:l*a.getD (n-1) 0<(4294967297+1)*a.getD (n-1) 0:=by rw[dy (4294967297+1),(aa:a.getD (n-1) 0*(4294967297+1)=a.getD (n-1) 0*4294967296+a.getD (n-1) 0*2)];omega
  have:=vP this;omega
 refine b8 (λk u H1=>∃h r,(∀t,t<115->t≠16->t≠17->rd t u=rd t F)/\rd 16 u=aC (h:Nat)/\rd 17 u=aC (r:Nat)/\s=h*a.getD (n-1) 0+r/\q<=h/\r<4294967296/\h<=l/\k=h/\H1=H) l ⟨l,G,λ_ _ _ _=>rfl,a0,a1,a3,a9,aa,aJ _,rfl,rfl⟩ ?_;rintro h u H1 ⟨_,r,i,o,x,T,a8,ce,bs,rfl,rfl⟩;have y:=(i 9 aa aa aa).trans a2;have J:=(i 10 aa aa aa).trans ap;have w:=(i 11 aa aa aa).trans ar;have K:=(i 14 aa aa aa).trans aw;simp only[ZY,ZX,ZW,ZT,ZI];generalize C:a.getD (n-1) 0=f at*
 generalize P:a.getD (n-2) 0=m at*
 generalize Q:L.getD (j+n-2) 0=Y at*
 have v:1<=h->s=(h-1)*f+(r+f):=λb=>by obtain⟨g,rfl⟩:∃g,h=g+1:=⟨h-1,aa⟩;rw[T,fT,kn,vN];omega
 have ac:1<=h->4294967296<=r+f->h-1<4294967296/\(h-1)*m<=(r+f)*4294967296+Y:=λb d=>by have e:=v b;have A:(h-1)*f<4294967296*f:=aa;have h5:=vP A;have h6:=Eo h5 ae;omega
 have E:∀ {h:Nat},1<=h->((h:Int)-1)=((h-1:Nat):Int):=λb=>aa
 have bc:∀ {Z:Fr} (t:Nat),(∀t,t<115->t≠16->t≠17->rd t Z=rd t u)->t<115->t≠16->t≠17->rd t Z=rd t F:=λt b d e A=>(b t d e A).trans (i t d e A)
 by_cases hB:4294967296<=h
 .have a7:q<h:=aa;by_cases O:4294967296<=r+f
  .obtain⟨W,X⟩:=ac aa O;simp(disch:=omega)only[go_sem,y,w,o,x,df,cz,aK,kB,D,iK,C];refine N _ (h-1) (r+f) (λt b d e=>?_) ?_ W aa (v aa) X
   .simp(disch:=omega)only[cX];exact i t b d e
   .simp only[go_sem];rw[E aa]
  .simp(disch:=omega)only[go_sem,y,w,o,x,dt,df,cz,aK,kB,D,iK,C];refine⟨h-1,aa,h-1,r+f,λt b d e=>?_,?_,?_,v aa,aa,aa,aa,rfl,rfl⟩
   .simp(disch:=omega)only[cX];exact i t b d e
   .simp only[go_sem];rw[E aa]
   .simp only[go_sem];rfl
 .have S:=Eo (aa:h<4294967296) ae;have p:(h:Int)*(m:Int)=((h*m:Nat):Int):=by rw[fF]
  have a':=ba h r T;by_cases B:r*4294967296+Y<h*m
  .have a7:=a' B;by_cases O:4294967296<=r+f
   .obtain⟨W,X⟩:=ac aa O;generalize h*m=p2 at S p B
    simp(disch:=omega)only[go_sem,y,J,w,K,o,x,dt,df,cz,aK,kB,cH,D,U,V,M,iK,C,P,Q,p,B0,BA];refine N _ (h-1) (r+f) (λt b d e=>?_) ?_ W aa (v aa) X
    .simp(disch:=omega)only[cX];exact i t b d e
    .simp only[go_sem];rw[E aa]
   .generalize h*m=p2 at S p B
    simp(disch:=omega)only[go_sem,y,J,w,K,o,x,dt,cz,aK,kB,cH,D,U,V,M,iK,C,P,Q,p,B0,BA];refine⟨h-1,aa,h-1,r+f,λt b d e=>?_,?_,?_,v aa,aa,aa,aa,rfl,rfl⟩
    .simp(disch:=omega)only[cX];exact i t b d e
    .simp only[go_sem];rw[E aa]
    .simp only[go_sem];rfl
  .have a6:h*m<=r*4294967296+Y:=aa;generalize ca:h*m=p2 at S p B
   simp(disch:=omega)only[go_sem,y,J,w,K,o,x,dt,df,cz,aK,kB,cH,U,V,M,iK,P,Q,p,B0,BA];refine N _ h r (λt b d e=>?_) ?_ aa a8 T a6
   .simp(disch:=omega)only[cX];exact i t b d e
   .simp only[go_sem,o]
def CS{n:Nat}(h:n<18446744073709551616):ga (gp .and) [aC n,aC 4294967295]=some (.val (aC (n%4294967296:Nat))):=by show some (bh.val (aC (pC (rH .u64) (eR .u64) (Nat.land (iy (eR .u64) (n:Int)) (iy (eR .u64) 4294967295)))))=_;rw[wR h,AD,show iy (eR .u64) 4294967295=2^32-1 from rfl];exact congrArg (λm:Nat=>some (bh.val (aC m))) (Nat.and_two_pow_sub_one_eq_mod n 32)
def aqX(d f:av)(n j q o c h:Nat)(bc:aG d)(bb:aG f)(hn:af d=n)(hj:j+n<o)(a1:f.length=o)(bj:o<4294967295)(hh:h<4294967296)
 (F:Fr) (H:ah) (R:b5) (al:rd 9 F=mag d) (X:rd 10 F=.slice q 0 o (.known c)) (Y:rd 11 F=aj n) (Z:rd 14 F=aj j) (ab:rd 16 F=aC h) (ac:rd 18 F=aC 0) (ad:rd 19 F=aC 0) (ae:rd 20 F=aj 0) (a0:H.get q=an (bC f) 0)
 (hR:∀u v L a b,(∀t,t<151->t≠18->t≠19->t≠20->t≠21->t≠22->rd t u=rd t F)->rd 18 u=aC (a:Nat)->rd 19 u=aC (b:Nat)->a<4294967296->b<=1->L.length=o->aG L->(∀p,j+n<=p->L.getD p 0=f.getD p 0)->L.take j=f.take j->val L+4294967296^j*(h*val d)=val f+4294967296^(j+n)*(a+b)->
   (∀y,y≠q->v.get y=H.get y)->v.ag=H.ag->v.get q=an (bC L) 0->R (.exit 6) u v):
 bK (.loop (pc 146 9)) R F H:=by
 refine b8 (λk r x=>∃(i a b:Nat) (L:av),(∀t,t<151->t≠18->t≠19->t≠20->t≠21->t≠22->rd t r=rd t F)/\rd 18 r=aC (a:Nat)/\rd 19 r=aC (b:Nat)/\rd 20 r=aj i/\a<4294967296/\b<=1/\k=n-i/\i<=n/\L.length=o/\aG L/\(∀p,j+i<=p->L.getD p 0=f.getD p 0)/\L.take j=f.take j/\
  val L+4294967296^j*(h*val (d.take i))=val f+4294967296^(j+i)*(a+b)/\(∀y,y≠q->x.get y=H.get y)/\x.ag=H.ag/\x.get q=an (bC L) 0) n ⟨0,0,0,f,λ_ _ _ _ _ _ _=>rfl,ac,ad,ae,aa,aa,rfl,cj _,a1,bb,λ_ _=>rfl,rfl,by simp[val],λ_ _=>rfl,rfl,a0⟩ ?_
 rintro k r x ⟨i,a,b,L,m,J,K,M,a4,a3,rfl,hi,hl,G,V,Q,E,P,O,N⟩;have f9:=(m 9 aa aa aa aa aa aa).trans al;have am:=(m 10 aa aa aa aa aa aa).trans X;have I:=(m 11 aa aa aa aa aa aa).trans Y;have ap:=(m 14 aa aa aa aa aa aa).trans Z;have ar:=(m 16 aa aa aa aa aa aa).trans ab;simp only[Z1,Z0,ZZ];by_cases bd:i<n
 .have a':=bc.getD i;have b0:=G.getD (j+i);have bi:af (bC L)=o:=by rw[iT,hl]
  have i1:((i:Int)+(j:Int)).toNat=j+i:=aa;have T:=Eo hh a';have U:(h:Int)*((d.getD i 0:Nat):Int)=((h*d.getD i 0:Nat):Int):=by rw[fF]
  have a9:=rM (l:=d) (i:=i) aa;have S:4294967296^j*(h*(val (d.take i)+4294967296^i*d.getD i 0))=4294967296^j*(h*val (d.take i))+4294967296^(j+i)*(h*d.getD i 0):=by rw[dL,dL,iB,Nat.mul_left_comm h,dx]
  generalize h*d.getD i 0=g at T U S
  have a6:(g:Int)+(a:Int)=((g+a:Nat):Int):=aa;obtain⟨s,a7,bs,bv⟩:∃s:Nat,((((L.getD (j+i) 0:Nat):Int)-(((g+a)%4294967296:Nat):Int))%18446744073709551616-(b:Int))%18446744073709551616=(s:Int)/\s<18446744073709551616/\L.getD (j+i) 0+4294967296*(s/4294967296%2)=s%4294967296+(g+a)%4294967296+b:=by refine⟨((((L.getD (j+i) 0:Nat):Int)-(((g+a)%4294967296:Nat):Int)-(b:Int))%18446744073709551616).toNat,?_,?_,?_⟩<;>omega
  have a8:=sW (l:=L) (p:=j+i) (v:=s%4294967296) aa;simp(disch:=omega)only[go_sem,f9,am,I,ap,ar,J,K,M,dt,cz,aK,kB,cH,i1,N,iK,U,a6,sI,CS,hN,a7,pU,ru,F6,fE,n4];refine⟨n-(i+1),aa,i+1,(g+a)/4294967296,s/4294967296%2,L.set (j+i) (s%4294967296),λt z A B C l D=>?_,?_,?_,?_,aa,aa,rfl,aa,by rw[iO,hl],rA G aa,λp T=>?_,?_,?_,λy W=>?_,O,?_⟩
  .simp(disch:=omega)only[cX];exact m t z A B C l D
  iterate 2 simp only[go_sem]
  .simp only[go_sem];congr 1
  .rw[getD_set_ne aa];exact V p aa
  .rw[List.take_set_of_le aa];exact Q
  .rw[a9,S];have l:4294967296^(j+i)*(s%4294967296+(g+a)+b)=4294967296^(j+i)*(L.getD (j+i) 0+4294967296*((g+a)/4294967296+s/4294967296%2)):=congrArg _ aa;rw[show j+(i+1)=j+i+1 from rfl,dX,dx];generalize(g+a)/4294967296+s/4294967296%2=w at l
   generalize s%4294967296=e at l a8
   simp only[dL]at l E⊢;omega
  .rw[ah.aT,ao (λe=>W e.symm)];exact P y W
  .rw[ah.aT,ay rfl]
 .have a5:i=n:=aa;subst a5;simp(disch:=omega)only[go_sem,I,M,df];rw[dr aa]at E;refine hR _ _ L a b (λt z A B C l D=>?_) ?_ ?_ a4 a3 hl G V Q E P O N
  .simp(disch:=omega)only[cX];exact m t z A B C l D
  iterate 2 simp only[go_sem,J,K]
def VB(a d:av)(n j g f c:Nat)(aw:aG a)(ar:aG d)(hn:af a=n)(hj:j+n<f)(Y:d.length=f)(a3:f<4294967295)
 (F:Fr) (H:ah) (R:b5) (T:rd 9 F=mag a) (N:rd 10 F=.slice g 0 f (.known c)) (O:rd 11 F=aj n) (P:rd 14 F=aj j) (Q:rd 18 F=aC 0) (S:rd 24 F=aj 0) (X:H.get g=an (bC d) 0)
 (Z:∀q m L b,(∀t,t<212->t≠18->t≠24->rd t q=rd t F)->rd 18 q=aC (b:Nat)->b<=1->L.length=f->aG L->(∀p,j+n<=p->L.getD p 0=d.getD p 0)->L.take j=d.take j->val L+4294967296^(j+n)*b=val d+4294967296^j*val a->
   (∀y,y≠g->m.get y=H.get y)->m.ag=H.ag->m.get g=an (bC L) 0->R (.exit 8) q m):
 bK (.loop (pc 146 12)) R F H:=by
 refine b8 (λk l o=>∃(i b:Nat) (L:av),(∀t,t<212->t≠18->t≠24->rd t l=rd t F)/\rd 18 l=aC (b:Nat)/\rd 24 l=aj i/\b<=1/\k=n-i/\i<=n/\L.length=f/\aG L/\(∀p,j+i<=p->L.getD p 0=d.getD p 0)/\L.take j=d.take j/\
  val L+4294967296^(j+i)*b=val d+4294967296^j*val (a.take i)/\(∀y,y≠g->o.get y=H.get y)/\o.ag=H.ag/\o.get g=an (bC L) 0) n ⟨0,0,d,λ_ _ _ _=>rfl,Q,S,aa,rfl,cj _,Y,ar,λ_ _=>rfl,rfl,by simp[val],λ_ _=>rfl,rfl,X⟩ ?_
 rintro k l o ⟨i,b,L,h,C,D,ab,rfl,hi,hl,A,K,J,z,I,G,E⟩;have W:=(h 9 aa aa aa).trans T;have U:=(h 10 aa aa aa).trans N;have B:=(h 11 aa aa aa).trans O;have V:=(h 14 aa aa aa).trans P;simp only[ZA,Zz,Zy];by_cases a0:i<n
 .have a8:=aw.getD i;have a7:=A.getD (j+i);have a2:af (bC L)=f:=by rw[iT,hl]
  have i1:((i:Int)+(j:Int)).toNat=j+i:=aa;have am:=rM (l:=a) (i:=i) aa;have ad:4294967296^j*(val (a.take i)+4294967296^i*a.getD i 0)=4294967296^j*val (a.take i)+4294967296^(j+i)*a.getD i 0:=by rw[dL,iB,dx]
  obtain⟨s,hs⟩:∃s,s=b+(L.getD (j+i) 0+a.getD i 0):=⟨_,rfl⟩;have ae:(b:Int)+(((L.getD (j+i) 0:Nat):Int)+((a.getD i 0:Nat):Int))=(s:Int):=aa;have al:=sW (l:=L) (p:=j+i) (v:=s%4294967296) aa;simp(disch:=omega)only[go_sem,W,U,B,V,C,D,dt,cz,aK,kB,cH,i1,E,iK,ae,sI,pU,ru,fE,n4];refine⟨n-(i+1),aa,i+1,s/4294967296,L.set (j+i) (s%4294967296),λt r u v=>?_,?_,?_,aa,rfl,aa,by rw[iO,hl],rA A aa,λp hp=>?_,?_,?_,λy M=>?_,G,?_⟩
  .simp(disch:=omega)only[cX];exact h t r u v
  .simp only[go_sem]
  .simp only[go_sem];congr 1
  .rw[getD_set_ne aa];exact K p aa
  .rw[List.take_set_of_le aa];exact J
  .rw[am,ad];have x:4294967296^(j+i)*(s%4294967296+4294967296*(s/4294967296))=4294967296^(j+i)*(b+(L.getD (j+i) 0+a.getD i 0)):=congrArg _ aa;rw[show j+(i+1)=j+i+1 from rfl,dX,dx];generalize s/4294967296=w at x
   generalize s%4294967296=e at x al
   simp only[dL]at x z⊢;omega
  .rw[ah.aT,ao (λe=>M e.symm)];exact I y M
  .rw[ah.aT,ay rfl]
 .have ac:i=n:=aa;subst ac;simp(disch:=omega)only[go_sem,B,D,df];rw[dr aa]at z;refine Z _ _ L b (λt r u v=>?_) ?_ ab hl A K J z I G E
  .simp(disch:=omega)only[cX];exact h t r u v
  .simp only[go_sem,C]
theorem TM(n:Nat):tU (n:Int) (ej 63 (h_ .u64))=((n/9223372036854775808:Nat):Int):=rfl
theorem as_(x u W r:Nat):x*(W*4294967296)+(r+W*u)=(x*4294967296+u)*W+r:=by grind
variable{m:Nat}{D:Nat}{O:Nat}
theorem apV{U V W e f:Nat}(g:U=(d*4294967296+m)*W+D)(i:V=(O*4294967296+e)*W+f)(k:f<W)(h:U<V)(j:e<4294967296):d<=O:=by
 rcases rY O d with h1|h1
 .have a:(O+1)*4294967296<=d*4294967296+m:=aa;have b:((O+1)*4294967296)*W<=(d*4294967296+m)*W:=ei _ a;have c:(O*4294967296+e+1)*W<=((O+1)*4294967296)*W:=ei _ aa
  grind
 .exact h1
set_option maxHeartbeats 4000000 in
theorem ai7(a:av)(n m q g b A:Nat)(y:aG a)(hn:af a=n)(a9:2<=n)(hg:b=m+n+1)(a8:b<4294967295)(fd:2147483648<=a.getD (n-1) 0)(x:¬q=g)(B:av)(f2:aG B)(d':B.length=b)(hA:val B=A)(eh:val (B.drop (m+1))<val a)
 (F:Fr) (H:ah) (R:b5) (a0:rd 9 F=mag a) (Y:rd 10 F=.slice q 0 b (.known b)) (Z:rd 11 F=aj n) (ab:rd 13 F=.slice g 0 (m+1) (.known (m+1))) (f7:rd 14 F=aj m) (d4:H.get q=an (bC B) 0) (d9:H.get g=an (bC (aZ (m+1) 0)) 0)
 (hR:∀F' W L c,(∀t,t<14->rd t F'=rd t F)->L.length=b->aG L->aG c->af c=m+1->val L+val a*val c=A->val L<val a->W.get q=an (bC L) 0->W.get g=an (bC c) 0->W.ag=H.ag->R (.exit 2) F' W):
 bK (.loop (pc 146 15)) R F H:=by
 refine b8 (λk T X=>∃(J:Nat) (L c:av),(∀t,t<14->rd t T=rd t F)/\rd 14 T=aj ((J:Int)-1)/\k=J/\J<=m+1/\L.length=b/\aG L/\aG c/\af c=m+1-J/\val L+val a*(4294967296^J*val c)=A/\val (L.drop J)<val a/\X.get q=an (bC L) 0/\X.get g=an (bC (aZ J 0++c)) 0/\X.ag=H.ag) (m+1)
  ⟨m+1,B,[],λ_ _=>rfl,by grind,rfl,aJ _,d',f2,aG.nil,aI,by rw[show val []=0 from rfl,gj,gj,dG];exact hA,eh,d4,by simpa using d9,rfl⟩ ?_
 rintro J T X ⟨_,L,c,M,a1,rfl,f',hl,f,dT,hm,hv,cp,a5,ev,c2⟩;have f9:=(M 9 aa).trans a0;have b1:=(M 10 aa).trans Y;have b2:=(M 11 aa).trans Z;have f8:=(M 13 aa).trans ab;simp only[ZD,ZC,ZB];cases J with
 |zero=>
  simp(disch:=omega)only[go_sem,a1,dt]
  grind [cX]
 |succ j=>
  have a2:rd 14 T=aj j:=by rw[a1];congr 1;omega
  clear a1;have eb:val a<4294967296^n:=by rw[<-hn];exact iz y
  have hz:∀p,n<=p->(L.drop (j+1)).getD p 0=0:=CL (rZ cp eb);have dC:∀p,j+n+1<=p->L.getD p 0=0:=λp E=>by
   have:=hz (p-(j+1)) aa
   grind
  have O:=x1 (l:=a) a9 aa (λp E=>by grind);have du:val (a.take (n-2))<4294967296^(n-2):=by
   have:=iz (y.take (n-2))
   grind
  have hf:j+n<L.length:=aa;have N:=x1 (l:=L.drop j) (n:=n+1) aa b4 (λp E=>by grind [wh]);have bd:=rM (l:=L.drop j) (i:=n-2) b4;rw[(aa:n+1-1=n),(aa:n+1-2=n-1),wh,wh]at N;rw[(aa:n-2+1=n-1),wh]at bd;have bj:val ((L.drop j).take (n-2))<4294967296^(n-2):=by
   have:=iz ((f.drop j).take (n-2))
   grind
  have et:4294967296^(n-1)=4294967296^(n-2)*4294967296:=by rw[(aa:n-1=n-2+1),dX]
  rw[bd,et]at N;have I:j+(n-1)=j+n-1:=aa;have e2:j+(n-2)=j+n-2:=aa;rw[I,e2]at N;obtain⟨i,be⟩:∃i,i=L.getD (j+n) 0*4294967296+L.getD (j+n-1) 0:=⟨_,rfl⟩;have ac:val (L.drop j)=(i*4294967296+L.getD (j+n-2) 0)*4294967296^(n-2)+val ((L.drop j).take (n-2)):=by rw[N,be];exact as_ _ _ _ _
  have fb:L.getD (j+n) 0<=a.getD (n-1) 0:=by have h1:=x1 (l:=L.drop (j+1)) a9 b4 hz;rw[wh,wh,(aa:j+1+(n-1)=j+n)]at h1;exact apV h1 O du cp (y.getD _)
  have eQ:val (L.drop j)/val a<4294967296:=by rw[s8 aa,wY aa];have:=f.getD j;omega
  have hq:val (L.drop j)/val a*val a<=val (L.drop j):=yH _ _;have c1:=D9 O ac bj (f.getD _) aa hq;have cd:0<a.getD (n-1) 0:=aa;obtain⟨K,D⟩:∃K,K=i/a.getD (n-1) 0:=⟨_,rfl⟩;obtain⟨S,al⟩:∃S,S=i%a.getD (n-1) 0:=⟨_,rfl⟩;have dd:i=K*a.getD (n-1) 0+S:=by rw[D,al,dy];exact(kj _ _).symm
  have e0:S<a.getD (n-1) 0:=by rw[al];exact fD _ cd
  have f3:=f.getD (j+n);have f4:=f.getD (j+n-1);have f5:=y.getD (n-1);have ho:K<=i:=by rw[D];exact js _ _
  have ha:af (bC L)=b:=by rw[iT,hl]
  have i1:((j:Int)+(n:Int)).toNat=j+n:=aa;have i2:((j:Int)+(n:Int)-1).toNat=j+n-1:=aa;have i3:((n:Int)-1).toNat=n-1:=aa;have hh:((a.getD (n-1) 0:Nat):Int)≠0:=aa;rw[be]at D al;simp(disch:=omega)only[go_sem,f9,b1,b2,a2,df,cz,aK,kB,cH,i1,i2,i3,a5,iK,B0,BA,j5,nY,t_,z3,<-D,<-al];have dl:i<=a.getD (n-1) 0*4294967296+4294967295:=by have:=ei 4294967296 fb;omega
  rw[<-be]at D;refine ajL a L n j q b b y f hn a9 aa hl a8 (val (L.drop j)/val a) i K S fd (λh r I e2=>D_ O ac bj hq I e2) eQ dl dd e0 (by rw[D];exact c1) _ _ _ ?_ ?_ ?_ ?_ ?_ ?_ a5 ?_
  iterate 6 simp only[go_sem,f9,b1,b2,a2]
  intro b0 h r g2 uX a7 hi dk co;have G:∀t,t<14->rd t b0=rd t F:=λt v=>by rw[g2 t aa aa aa];simp(disch:=omega)only[cX];exact M t v
  have tI:rd 14 b0=aj j:=by rw[g2 14 aa aa aa];simp(disch:=omega)only[cX];exact a2
  have dp:=Ea O ac du cd dk a7 co;have e3:=(G 9 aa).trans a0;have ca:=(G 10 aa).trans Y;have qh:=(G 11 aa).trans Z;have uW:=(G 13 aa).trans ab;clear g2 dd dl dk co c1 ac N bd bj O;rw[gb];simp(disch:=omega)only[go_sem];refine aqX a L n j q b b h y f hn aa hl a8 a7 _ _ _ ?_ ?_ ?_ ?_ ?_ ?_ ?_ ?_ a5 ?_
  iterate 8 simp only[go_sem,e3,ca,qh,tI,uX]
  intro ap H3 d u o g3 Ry Rz gt gs Q bs bi c0 fg d7 cf ce;have z:∀t,t<14->rd t ap=rd t F:=λt v=>by grind [cX]
  have zu:rd 14 ap=aj j:=by rw[g3 14 aa aa aa aa aa aa];simp(disch:=omega)only[cX];exact tI
  have D7:rd 16 ap=aC h:=by rw[g3 16 aa aa aa aa aa aa];simp(disch:=omega)only[cX];exact uX
  have pJ:=(z 9 aa).trans a0;have bo:=(z 10 aa).trans Y;have sx:=(z 11 aa).trans Z;have A8:=(z 13 aa).trans ab;have da:H3.get g=an (bC (aZ (j+1) 0++c)) 0:=(d7 g (λe=>x e.symm)).trans ev;have P:d.getD (j+n) 0=L.getD (j+n) 0:=bi _ (aJ _);have hb:af (bC d)=b:=by rw[iT,Q]
  have he:af (bC (aZ (j+1) 0++c))=m+1:=by rw[iT];simp;omega
  clear g3 G tI uX e3 ca qh uW;rw[gb];have f6:=f.getD (j+n);by_cases es:L.getD (j+n) 0<u+o
  .obtain⟨s,bb,db,ba,e'⟩:∃s:Nat,((((L.getD (j+n) 0:Nat):Int)-(u:Int))%18446744073709551616-(o:Int))%18446744073709551616=(s:Int)/\s<18446744073709551616/\s%4294967296+(u+o)=L.getD (j+n) 0+4294967296/\s/9223372036854775808=1:=by refine⟨((((L.getD (j+n) 0:Nat):Int)-(u:Int)-(o:Int))%18446744073709551616).toNat,?_,?_,?_,?_⟩<;>omega
   have bc:=sW (l:=d) (p:=j+n) (v:=s%4294967296) aa;rw[P]at bc;have hP:4294967296^(j+n)*(s%4294967296)+4294967296^(j+n)*(u+o)=4294967296^(j+n)*L.getD (j+n) 0+4294967296^(j+n)*4294967296:=by rw[<-dL,<-dL,ba]
   have g1:val (d.set (j+n) (s%4294967296))+4294967296^j*(h*val a)=val L+4294967296^(j+n)*4294967296:=aa;have ad:=iz (f.take j);rw[jq aa]at ad;have d2:=rL L j aa;have fn:val d<4294967296^(j+n)*(L.getD (j+n) 0+1):=by have I:=ud (l:=d) (k:=j+n+1) (λp E=>by rw[bi p aa];exact dC p E);rw[I,rM aa,P,dL,eD];have:=iz (bs.take (j+n));rw[jq aa]at this;omega
   have el:=avB d2 fg fn es;have ch:0<val a:=aa;have hj:val (L.drop j)/val a<h:=(s8 ch).2 el;have hk:h-1<=val (L.drop j)/val a:=(vO ch).2 dp;have a':h-1=val (L.drop j)/val a:=aa;have eq:b=d.length:=Q.symm;have fs:((h:Int)-1)=((h-1:Nat):Int):=aa;simp(disch:=omega)only[go_sem,bo,sx,zu,D7,Ry,Rz,dt,cz,aK,cH,i1,ce,P,iK,hN,bb,TM,e',pU,ru,fE,n4,fs];have ea:af (d.set (j+n) (s%4294967296))=b:=by rw[iO,Q]
   refine VB a (d.set (j+n) (s%4294967296)) n j q b b y (rA bs aa) hn aa ea a8 _ _ _ ?_ ?_ ?_ ?_ ?_ ?_ ?_ ?_
   iterate 6 simp only[go_sem,pJ,bo,sx,zu]
   .rw[ah.aT,ay rfl]
   intro U H4 l w g4 _ g0 cs dE dq em hp d8 d6 d5;have ft:= ‹rd 18 U=_›;have V:∀t,t<14->rd t U=rd t F:=λt v=>by rw[g4 t aa aa aa];simp(disch:=omega)only[cX];exact z t v
   have f0:rd 14 U=aj j:=by rw[g4 14 aa aa aa];simp(disch:=omega)only[cX];exact zu
   have f1:rd 16 U=aC (h-1:Nat):=by rw[g4 16 aa aa aa];simp only[go_sem]
   have fv:=(V 10 aa).trans Y;have fw:=(V 11 aa).trans Z;have fx:=(V 13 aa).trans ab;have ex:H4.get g=an (bC (aZ (j+1) 0++c)) 0:=by rw[d8 g (λe=>x e.symm),ah.aT,ao x];exact da
   have a6:l.getD (j+n) 0=s%4294967296:=by rw[dq _ (aJ _),bT,List.getElem?_set_self aa];rfl
   have hQ:4294967296^j*(h*val a)=4294967296^j*((h-1)*val a)+4294967296^j*val a:=by rw[<-dL,<-qR,(aa:(h-1).succ=h)]
   have g':4294967296^j*((h-1)*val a)<=val L:=by have:=eN (4294967296^j) dp;omega
   have go:val l+4294967296^(j+n)*w+4294967296^j*((h-1)*val a)=val L+4294967296^(j+n)*4294967296:=aa;have hc:s%4294967296+w=4294967296:=by
    refine qI λhc=>?_
    have hs:=sW (l:=l) (p:=j+n) (v:=s%4294967296+w) aa;rw[a6,dL]at hs;have l6:=ud (l:=l.set (j+n) (s%4294967296+w)) (k:=j+n+1) (λp E=>by rw[getD_set_ne aa,dq p aa,getD_set_ne aa,bi p aa];exact dC p E)
    have ed:=iz ((rA dE (p:=j+n) (v:=s%4294967296+w) aa).take (j+n+1));rw[<-l6,jq (by rw[iO];omega),dX]at ed;omega
   have fa:=sW (l:=l) (p:=j+n) (v:=0) aa;rw[a6,gj,dG]at fa;have ge:4294967296^(j+n)*(s%4294967296)+4294967296^(j+n)*w=4294967296^(j+n)*4294967296:=by rw[<-dL,hc]
   have C:val (l.set (j+n) 0)+4294967296^j*((h-1)*val a)=val L:=aa;have hw:aE .u32 (((s%4294967296:Nat):Int)+(w:Int))=((0:Nat):Int):=by rw[pU];omega
   have hd:af (bC l)=b:=by rw[iT,cs]
   rw[gb];simp(disch:=omega)only[go_sem,fv,fw,fx,f0,f1,ft,iU,aK,cH,i1,d5,a6,iK,hw,fE,n4,x,ex,J5];refine⟨j,aa,j,l.set (j+n) 0,(h-1)::c,λt v=>?_,?_,rfl,aa,by rw[iO,cs],rA dE aa,.mk aa dT,by simp;omega,?_,Ts aa (by rw[iO];omega) (by rw[List.take_set_of_le aa,em,List.take_set_of_le aa];exact c0) C a' aa,?_,?_,by rw[kQ,kQ,d6,kQ,cf,c2]⟩
   .simp(disch:=omega)only[cX];exact V t v
   .simp only[go_sem]
   .have aw:val ((h-1)::c)=(h-1)+4294967296*val c:=rfl;rw[aw,Lb,<-ng,C,<-hv,dX]
   .rw[ah.aT,ao (λe=>x e.symm),ah.aT,ay rfl]
   .rw[ah.aT,ay rfl]
  .obtain⟨s,bb,db,ba⟩:∃s:Nat,((L.getD (j+n) 0:Nat):Int)-(u:Int)-(o:Int)=(s:Int)/\s<4294967296/\L.getD (j+n) 0=s+(u+o):=⟨L.getD (j+n) 0-(u+o),aa,aa,aa⟩;have bc:=sW (l:=d) (p:=j+n) (v:=s) aa;rw[P,ba,dL]at bc;have C:val (d.set (j+n) s)+4294967296^j*(h*val a)=val L:=aa;have a':h=val (L.drop j)/val a:=by have e:=rL L j aa;have ad:=iz (f.take j);rw[jq aa]at ad;have:=arC e ad C;have:=(vO (aa:0<val a)).2 this;omega
   have eq:b=d.length:=Q.symm;simp(disch:=omega)only[go_sem,bo,sx,A8,zu,D7,Ry,Rz,df,cz,iU,aK,cH,i1,ce,P,iK,bb,TM,fE,n4,x,da,J5];refine⟨j,aa,j,d.set (j+n) s,h::c,λt v=>?_,?_,rfl,aa,by rw[iO,Q],rA bs db,.mk a7 dT,by simp;omega,?_,Ts aa (by rw[iO];omega) (by rw[List.take_set_of_le aa];exact c0) C a' aa,?_,?_,by rw[kQ,kQ,cf,c2]⟩
   .simp(disch:=omega)only[cX];exact z t v
   .simp only[go_sem]
   .have aw:val (h::c)=h+4294967296*val c:=rfl;rw[aw,Lb,<-ng,C,<-hv,dX]
   .rw[ah.aT,ao (λe=>x e.symm),ah.aT,ay rfl]
   .rw[ah.aT,ay rfl]
theorem ot(x k:Nat):tU (x:Int) k=((x/2^k:Nat):Int):=rfl
def Iv{v:Nat}(h:a<af g):(g.set a v).getD a 0=v:=by rw[bT,List.getElem?_set_self h];rfl
def arV{x e:Nat}(b:a<=31)(g:x<4294967296):x/2^a|||(e*2^(32-a))%4294967296=x/2^a+(e%2^a)*2^(32-a):=by
 have f:0<2^a:=gE aa;have c:x/2^a<2^(32-a):=by rw[s8 f,dy,<-two32 b];exact g
 have d:(e*2^(32-a))%4294967296=(e%2^a)<<<(32-a):=by rw[two32 b,uD,Nat.shiftLeft_eq]
 rw[d,Nat.or_comm,<-Nat.shiftLeft_add_eq_or_of_lt c,i_,Nat.shiftLeft_eq]
def aue(l Y:av)(s d c:Nat)(X:aG Y)(O:∀p,p<af l->Y.getD p 0=l.getD p 0)(U:s<=31)(a6:af l<=Y.length)(a':Y.length<4294967295)
 (F:Fr) (H:ah) (R:b5) (ac:rd 8 F=aC s) (Z:rd 25 F=.slice d 0 (af l) (.known c)) (ab:rd 26 F=aj 0) (ap:H.get d=an (bC Y) 0)
 (hR:∀L r M,(∀t,t<260->t≠26->rd t L=rd t F)->M.length=Y.length->aG M->(∀p,p<af l->M.getD p 0=(shr s l).getD p 0)->(∀y,y≠d->r.get y=H.get y)->r.ag=H.ag->r.get d=an (bC M) 0->R (.exit 10) L r):
 bK (.loop (pc 146 18)) R F H:=by
 refine b8 (λk B u=>∃(i:Nat) (M:av),(∀t,t<260->t≠26->rd t B=rd t F)/\rd 26 B=aj i/\k=af l-i/\i<=af l/\M.length=Y.length/\aG M/\(∀p,p<i->M.getD p 0=(shr s l).getD p 0)/\(∀p,i<=p->p<af l->M.getD p 0=l.getD p 0)/\(∀y,y≠d->u.get y=H.get y)/\u.ag=H.ag/\u.get d=an (bC M) 0) (af l)
  ⟨0,Y,λ_ _ _=>rfl,ab,rfl,cj _,rfl,X,λp f=>absurd f (nP _),λp _ f=>O p f,λ_ _=>rfl,rfl,ap⟩ ?_
 rintro k B u ⟨i,M,j,D,rfl,hi,hl,o,K,J,I,G,E⟩;have N:=(j 8 aa aa).trans ac;have C:=(j 25 aa aa).trans Z;simp only[ZG,ZF,ZE];have f:0<2^s:=gE aa;by_cases Q:i<af l
 .have A:=o.getD i;have a7:af (bC M)=Y.length:=by rw[iT,hl]
  have i1:((i:Int)+1).toNat=i+1:=aa;have W:ej s (h_ .u32)=s:=lM (aa:s<=32);have a4:ej (32-s) (h_ .u64)=32-s:=lM (aa:32-s<=64);have am:(32:Int)-(s:Int)=((32-s:Nat):Int):=aa;have m:=zU (s:=s) Q;rw[<-J i (aJ _) Q]at m;have P:M.getD i 0/2^s<=M.getD i 0:=js _ _;by_cases hj:i+1<af l
  .have he:=o.getD (i+1);rw[<-J (i+1) aa hj]at m;have z:=arV (x:=M.getD i 0) (e:=M.getD (i+1) 0) U A;rw[<-m]at z;have S:((M.getD (i+1) 0:Nat):Int)*((2^(32-s):Nat):Int)=((M.getD (i+1) 0*2^(32-s):Nat):Int):=by rw[fF]
   have a2:M.getD (i+1) 0*2^(32-s)<=4294967295*4294967296:=iP aa (c5 (iI (n:=2) aa (aa:32-s<=32)) (aJ _));generalize M.getD (i+1) 0*2^(32-s)=v at z S a2
   obtain⟨w,V⟩:∃w,w=M.getD i 0/2^s:=⟨_,rfl⟩;rw[<-V]at z P;have g1:(M.set i w).getD i 0=w:=Iv aa;have g2:(M.set i w).getD (i+1) 0=M.getD (i+1) 0:=getD_set_ne aa;have a8:af (bC (M.set i w))=Y.length:=by rw[iT,iO,hl]
   have a9:af (M.set i w)=Y.length:=by rw[iO,hl]
   have a1:=(yg U (l:=l) (λx A=>by obtain⟨q,T,rfl⟩:=List.getElem_of_mem A;have a:=X.getD q;rw[O q T,bT,c4 T]at a;exact a)).getD i
   simp(disch:=omega)only[go_sem,N,C,D,dt,aK,cH,i1,E,iK,W,a4,ot,<-V,am,g1,g2,S,cz,pU,ru,SN,z,fE,n4,List.set_set];refine⟨af l-(i+1),aa,i+1,M.set i ((shr s l).getD i 0),λt a b=>?_,?_,rfl,aa,by rw[iO,hl],rA o a1,λp f=>?_,λp a b=>?_,λy g=>?_,G,?_⟩
   .simp(disch:=omega)only[cX];exact j t a b
   .simp only[go_sem];rfl
   .by_cases e:p=i
    .rw[e,Iv aa]
    .rw[getD_set_ne (λh=>e h.symm)];exact K p aa
   .rw[getD_set_ne aa];exact J p aa b
   .rw[ah.aT,ao (λe=>g e.symm),ah.aT,ao (λe=>g e.symm)];exact I y g
   .rw[ah.aT,ay rfl]
  .have h0:l.getD (i+1) 0=0:=by rw[bT,lA aa];rfl
   rw[h0,Nat.zero_mod,j4,dG]at m;simp(disch:=omega)only[go_sem,N,C,D,dt,df,aK,cH,E,iK,W,ot,fE,n4];refine⟨af l-(i+1),aa,i+1,M.set i (M.getD i 0/2^s),λt a b=>?_,?_,rfl,aa,by rw[iO,hl],rA o (fu P A),λp f=>?_,λp a b=>?_,λy g=>?_,G,?_⟩
   .simp(disch:=omega)only[cX];exact j t a b
   .simp only[go_sem];rfl
   .by_cases e:p=i
    .rw[e,Iv aa,m]
    .rw[getD_set_ne (λh=>e h.symm)];exact K p aa
   .omega
   .rw[ah.aT,ao (λe=>g e.symm)];exact I y g
   .rw[ah.aT,ay rfl]
 .have aw:i=af l:=aa;subst aw;simp(disch:=omega)only[go_sem,C,D,df];refine hR _ _ M (λt a b=>?_) hl o K I G E;simp(disch:=omega)only[cX];exact j t a b
def aiQ(l:av)(n:Nat):(bC l).take n=bC (l.take n):=by simp[bC,List.map_take]
def akE{l:av}(h:b.get a=an (bC g) 0)(f:I.get a=.none)(j:af l=d)(e:g.take d=l):bS b I (.slice a 0 d Y) (mag l):=by
 subst j;have i:af l<=g.length:=by have:=congrArg af e;rw[e8]at this;omega
 cases l with
 |nil=>exact .fQ a 0 Y
 |cons c l=>refine .row (m:=af (c::l)) (cs:=bC (c::l)) ?_ (mA _) f (dn.refl _);rw[fO h,dQ,fB,ay (by rw[iT];exact i),aiQ,e]
def arB(b:av)(E:aG b)(G:0<af b)(J:af b<4294967295)(C:0<b.getD (af b-1) 0)(F:Fr)(H:ah)(R:b5)(u:rd 1 F=mag b)(w:rd 8 F=aC 0)
 (x:∀e s,(∀t,t<49->t≠8->rd t e=rd t F)->rd 8 e=aC (s:Nat)->s<=31->2147483648<=b.getD (af b-1) 0*2^s->b.getD (af b-1) 0*2^s<4294967296->R (.exit 0) e H):
 bK (.loop (pc 146 1)) R F H:=by
 have D:=E.getD (af b-1);refine b8 (λk f n=>∃s:Nat,(∀t,t<49->t≠8->rd t f=rd t F)/\rd 8 f=aC (s:Nat)/\k=32-s/\s<=31/\b.getD (af b-1) 0*2^s<4294967296/\n=H) 32 ⟨0,λ_ _ _=>rfl,w,rfl,aa,by rw[r0,eD];exact D,rfl⟩ ?_;rintro k f n ⟨s,j,g,rfl,B,m,rfl⟩;have o:=(j 1 aa aa).trans u;simp only[Zx,Zw];have r:((af b:Int)-1).toNat=af b-1:=aa;have p:ej s (h_ .u32)=s:=lM (aa:s<=32);have c:((b.getD (af b-1) 0:Nat):Int)*((2^s:Nat):Int)=((b.getD (af b-1) 0*2^s:Nat):Int):=by rw[fF]
 have q:b.getD (af b-1) 0*2^(s+1)=b.getD (af b-1) 0*2^s*2:=by rw[dX,dx]
 have z:2^s<=b.getD (af b-1) 0*2^s:=by have:=ei (2^s) C;simpa using this
 by_cases l:b.getD (af b-1) 0*2^s<2147483648
 .have I:s<31:=(Nat.pow_lt_pow_iff_right (a:=2) aa).1 (fu z (show _<2^31 from l));obtain⟨v,d⟩:∃v,v=b.getD (af b-1) 0*2^s:=⟨_,rfl⟩;rw[<-d]at m l c q;simp(disch:=omega)only[go_sem,o,g,kB,r,iK,p,c,iU,cz,aK,dt];refine⟨32-(s+1),aa,s+1,λt h i=>?_,?_,rfl,aa,by rw[q];omega,rfl⟩
  .simp(disch:=omega)only[cX];exact j t h i
  .simp only[go_sem];rfl
 .obtain⟨v,d⟩:∃v,v=b.getD (af b-1) 0*2^s:=⟨_,rfl⟩;rw[<-d]at c;have A:=m;have y:=l;rw[<-d]at A y;simp(disch:=omega)only[go_sem,o,g,kB,r,iK,p,c,iU,aK,df];refine x _ s (λt h i=>?_) ?_ B aa m
  .simp(disch:=omega)only[cX];exact j t h i
  .simp only[go_sem,g]
def akC{g gh f:Nat}{l:av}(h:b.get a=an (bC l) g)(k:b.get g=.bV gh f)(j:f<=a)(e:I.get a=.none)(m:af l=d):bS b I (.slice a 0 d Y) (mag l):=by
 subst m;cases l with
 |nil=>exact .fQ a 0 Y
 |cons c l=>
  refine .row (m:=af (c::l)) (cs:=bC (c::l)) ?_ (mA _) e (dn.refl _);have i:b.cells? a=some (bC (c::l)):=by unfold ah.cells?;rw[h];show aX (b.gr a g) _=_;rw[gJ.2 (.inr ⟨gh,f,k,j⟩)];rfl
  unfold ah.dz;rw[i];show cW (eH (bC (c::l)) 0) (af (c::l))=some (bC (c::l));rw[dQ,fB,ay (by rw[iT];exact aJ _),dr (by rw[iT];exact aJ _)]
theorem m7:(ah.zero a).get d=.none:=ah.hL _ _
def aiU(h:af (aU a)=1):aU a=[a]/\a<4294967296:=by
 have b:=gU a;have c:=iX a
 match e:aU a,h with
 |[d],_=>rw[e]at b c;simp[val]at b;subst b;exact⟨rfl,c.cons.1⟩
def XR(l:av)(hl:af l<=2000000)(b:Nat)(H:ah)(c:H.get b=an [] 0)(m:b<H.ag)(Q:Option (V×ah)->Prop)
 (h:∀v a,bS a (ah.zero a.ag) v (mag l)->Q (some (v,a))):Q (fU 1 4 [.slice b 0 0 (.known 0),mag l] H):=by
 cases l with
 |nil=>exact h _ _ (.fQ b 0 _)
 |cons d l=>
  have i:lI (mag (d::l))=some (af l+1):=rfl;have f:eu H 1 (af l+1) (mag (d::l))=some (bC (d::l)):=by show cW (bC (d::l)) (fz (af l+1) 1)=_;rw[fB,ay (by rw[iT];show(af l+1)*1<=af l+1;omega),dr (by rw[iT];show af l+1<=(af l+1)*1;omega)]
  have e:fU 1 4 [.slice b 0 0 (.known 0),mag (d::l)] H=lG H 1 (af l+1) (bC (d::l)):=by
   show aq (lI (mag (d::l))) (λn=>aq (eu H 1 n (mag (d::l))) λj=>ku 1 4 (.slice b 0 0 (.known 0)) n j H)=_;rw[i];show aq (eu H 1 (af l+1) (mag (d::l))) _=_;rw[f];show aX (jx (0+(af l+1)) 4) (Bool.casesOn (motive:=λ_=>Option (V×ah)) (b6 (0+(af l+1)) 0) (aq (H.dz b 0 (0*1)) λk=>lG H 1 (0+(af l+1)) (dJ k (bC (d::l)))) (aq (H.fe b (0+0*1) (bC (d::l))) λH=>some (V.slice b 0 (0+(af l+1)) (.known 0),H)))=_;have g:jx (0+(af l+1)) 4=true:=by simp at hl;unfold jx;rw[lD aa,lD (show fz (0+(af l+1)) 4<=1099511627776 from by show(0+(af l+1))*4<=_;omega)];rfl
   rw[g,show b6 (0+(af l+1)) 0=false from by rw[eW];rfl,fO c];simp only[j4,dQ,Bi,By,Eu,Eb,eW]
  rw[e];refine h _ _ (akC (g:=H.ag+1) (gh:=H.ag) (f:=H.ag) ?_ ?_ (aJ _) m7 aI)
  .rw[ah.bl,ah.bl];rw[ao (by show¬(H.ag+1=H.ag);omega),ay rfl]
  .rw[ah.bl,ay (show(H.push (an (bC (d::l)) (Nat.succ H.ag))).ag=H.ag+1 from rfl)]
set_option maxHeartbeats 4000000 in
def PO(x y:Nat)(E:0<y)(dd:af (aU x)<=2000000)(ds:af (aU y)<=2000000):bm 146 [mag (aU x),mag (aU y)] (.aH [mag (aU (x/y)),mag (aU (x%y))]):=by
 refine rB (R:=λv=>v=_) (.f2 (lE _) (lE _)) ?_;refine bg anE ?_
 have k:∀(a b:V) (H:ah),bS H (ah.zero H.ag) a (mag (aU (x/y)))->bS H (ah.zero H.ag) b (mag (aU (x%y)))->∃v,bS H (ah.zero H.ag) (.aH [a,b]) v/\bA v/\v=.aH [mag (aU (x/y)),mag (aU (x%y))]:=λa b H u h2=>⟨_,.aH (.f2 u h2),.aH (.f2 (lE _) (lE _)),rfl⟩
 have P:=MO (aU x) (aU y) (iX _) (iX _) (rJ _) (rJ _) aa aa;rw[gU,gU]at P;have ly:0<af (aU y):=(uP y).2 aa;simp only[d146,ZV,ZU,ZS,ZR,ZQ,ZP,ZO,ZN,ZM,ZL,ZK,ZJ,ZH];simp only[go_sem];refine use P ?_;by_cases d:x<y
 .have hc:pE x y<0:=by unfold pE;rw[ay d];decide
  simp(disch:=assumption)only[go_sem,dt];refine XR (aU x) dd 5 _ ?_ ?_ (λr=>gW _ _ _ r) λv j hv=>?_
  .simp only[go_sem]
  .exact nO 5
  simp only[go_sem];rw[mw d,jR d,kz]at k;rw[mw d,jR d,kz];exact k _ _ _ .gK hv
 have bo:y<=x:=aa;have hc:¬pE x y<0:=by unfold pE;rw[ao d];split<;>omega
 simp(disch:=assumption)only[go_sem,df];by_cases u:af (aU y)=1
 .obtain⟨N,am⟩:=aiU u;have Q:=TV (aU x) y (iX _) ⟨E,am⟩ aa;rw[gU]at Q;have bs:dO none 1 [mag [y],aj 0]=some (.val (.dY [V.int .u32 (y:Int)] 0)):=kB (l:=[y]) ⟨ai,aI⟩;simp(disch:=omega)only[go_sem,N,bs,iA,Int.natCast_one,decide_true];rw[<-N];refine use Q ?_;have hr:x%y<4294967296:=rZ (fD _ E) am;simp only[go_sem];refine kV (b:=5) (cs:=bC [x%y]) (args2:=[mag [x%y]]) (vu [x%y] aI) ?_ ⟨0,_,_,fj.2 rfl⟩ (.f1 (wg (l:=[x%y]) ?_ ?_ rfl)) ?_
  .simp only[go_sem];rfl
  .simp only[go_sem];rfl
  .rw[ah.aT,ay rfl]
  simp only[go_sem];have et:trim [x%y]=aU (x%y):=by rw[sR (.mk hr aG.nil)];simp[val]
  rw[et];exact k _ _ _ (.same _) (.same _)
 .obtain⟨n,W⟩:∃n,af (aU y)=n+2:=⟨af (aU y)-2,aa⟩;obtain⟨m,B⟩:∃m,af (aU x)=m+(n+1)+1:=by have:=Ec bo;exact⟨af (aU x)-(n+2),aa⟩
  have ht:0<(aU y).getD (af (aU y)-1) 0:=lC (Ks aa);simp(disch:=omega)only[go_sem,df];refine arB (aU y) (iX _) ly aa ht _ _ _ ?_ ?_ ?_
  iterate 2 simp only[go_sem]
  intro F s w t f Y Z;have f0:rd 0 F=mag (aU x):=by rw[w 0 aa aa];simp only[go_sem]
  have a2:rd 1 F=mag (aU y):=by rw[w 1 aa aa];simp only[go_sem]
  clear w;rw[(aa:af (aU y)-1=n+1)]at Y Z;obtain⟨D,cs⟩:=Bv W f Y Z;rw[gb];simp only[go_sem,a2,t];refine(TH (aU y) s (iX _) f aa _).mono ?_;rintro _ j ⟨rfl,cd,c,c',b2,ad,-,a9⟩;have R:j.get 5=an (bC c) 0:=(a9 5).trans (ay rfl);rw[gU]at ad;have a0:trim c=aU (y*2^s):=by rw[sR c',ad]
  simp only[go_sem];refine kV (b:=5) (cs:=bC c) (args2:=[mag c]) (vu c aa) R ⟨0,_,_,fj.2 rfl⟩ (.f1 (wg (l:=c) R ?_ b2)) ?_
  .rw[ah.aT,ay rfl]
  rw[a0];simp only[go_sem,f0,t];refine(TH (aU x) s (iX _) f aa _).mono ?_;rintro _ I ⟨rfl,X,K,c2,A,C,-,O⟩;have ce:j.ag=6:=cd;have ab:(j.set 5 .none).ag=6:=by rw[kQ];exact ce
  rw[ab]at O X;have bi:I.get 6=an (bC K) 0:=by rw[O,ay rfl]
  rw[gU]at C;rw[B]at A;have im:((m+(n+1)+1+1:Nat):Int)-((n+1+1:Nat):Int)-1=(m:Int):=aa;rw[ab,B];simp(disch:=omega)only[go_sem,D,aK,im,iG,yc];have o:I.ag=7:=X;refine ai7 (aU (y*2^s)) (n+1+1) m 6 7 (m+(n+1)+1+1) (x*2^s) (iX _) D aa aa aa (by rw[vN];exact cs) ai K c2 A C ?_ _ _ _ ?_ ?_ ?_ ?_ ?_ ?_ ?_ ?_
  .rw[gU];exact akj C A B W
  iterate 5 simp only[go_sem,o]
  .rw[ah.bl,ao (by rw[o];decide)];exact bi
  .rw[ah.bl,ay o]
  intro i H3 L h g b1 ap db ca ae al S cf dl;rw[gU]at ae al;have a6:rd 8 i=aC s:=by rw[g 8 aa];simp only[go_sem,t]
  have a3:rd 10 i=.slice 6 0 (m+(n+1)+1+1) (.known (m+(n+1)+1+1)):=by rw[g 10 aa];simp only[go_sem]
  have a4:rd 11 i=aj (n+1+1:Nat):=by rw[g 11 aa];simp only[go_sem]
  have a5:rd 13 i=.slice 7 0 (m+1) (.known (m+1)):=by rw[g 13 aa];simp only[go_sem,o]
  clear g;rw[gb];obtain⟨hQ,hR⟩:=asR E ae al;have bv:((n+1+1:Nat):Int).toNat=n+1+1:=cg _;have b0:af (L.take (n+1+1))=n+1+1:=by rw[e8,b1];omega
  simp(disch:=omega)only[go_sem,a3,a4,tV,bv];have ac:=avJ (L.take (n+1+1)) (L.drop (n+1+1)) 6 (m+(n+1)+1+1) aa aa H3 (by rw[p6];exact S);rw[b0]at ac;refine ac.mono ?_;rintro _ _ ⟨rfl,rfl⟩;obtain⟨l,hl⟩:∃l,l=trim (L.take (n+1+1)):=⟨_,rfl⟩;rw[<-hl];have b':=Uo (L.take (n+1+1));rw[<-hl]at b';have cb:l=L.take (af l):=by have:=Up (L.take (n+1+1));rw[<-hl,List.take_take]at this;rw[(aa:min (af l) (n+1+1)=af l)]at this;exact this
  have cp:val l=val L:=by rw[hl,Ac];refine(ud (CL ?_)).symm;have:=iz (iX (y*2^s));rw[gU,D]at this;omega
  simp only[go_sem];refine aue l L s 6 (m+(n+1)+1+1) ap (λp q=>?_) f aa aa _ _ _ ?_ ?_ ?_ S ?_
  .rw[cb];simp only[bT];rw[List.getElem?_take_of_lt q]
  iterate 3 simp only[go_sem,a6]
  intro G J M z dk dq ba a' dp bj;have uW:rd 13 G=.slice 7 0 (m+1) (.known (m+1)):=by rw[z 13 aa aa];simp only[go_sem,a5]
  have a7:rd 25 G=.slice 6 0 (af l) (.known (m+(n+1)+1+1)):=by rw[z 25 aa aa];simp only[go_sem]
  clear z;have bb:M.take (af l)=shr s l:=by
   refine oC λp=>?_
   by_cases q:p<af l
   .have e:=ba p q;simp only[bT]at e;rw[List.getElem?_take_of_lt q];rw[c4 aa,c4 (by rw[vo];omega)]at e⊢;exact congrArg some e
   .rw[lA (by rw[e8];omega),lA (by rw[vo];omega)]
  have U:J.get 7=an (bC h) 0:=by rw[a' 7 ai];exact cf
  rw[gb];simp only[go_sem,uW];refine kV (b:=7) (cs:=bC h) (args2:=[mag h]) (vu h aa) U ⟨0,_,_,fj.2 rfl⟩ (.f1 (wg (l:=h) U jE ca)) ?_;simp only[go_sem,a7];have T:(J.set 7 .none).get 6=an (bC M) 0:=by rw[ah.aT,ao ai];exact bj
  refine kV (b:=6) (cs:=bC M) (args2:=[mag (shr s l)]) (vu (shr s l) (by rw[vo];omega)) T ⟨0,_,_,fj.2 rfl⟩ (.f1 (akE (l:=shr s l) T jE (vo s l) bb)) ?_;simp only[go_sem];have da:aG l:=by rw[hl];exact z5 (ap.take _)
  rw[sR db,sR (yg f da),zV f,cp,hQ,hR];exact k _ _ _ (.same _) (.same _)
def avp(x y:Int):(if(!(decide (x<0)==decide (y<0)))=true then-((x.natAbs/y.natAbs:Nat):Int)else((x.natAbs/y.natAbs:Nat):Int))=x.tdiv y:=by
 cases x with
 |ofNat a=>cases y with
  |ofNat b=>have c:¬(Int.ofNat a<0):=aI;have d:¬(Int.ofNat b<0):=aI;simp only[c,d,decide_false,L0,I8,jk,↓reduceIte];rfl
  |negSucc b=>have c:¬(Int.ofNat a<0):=aI;have d:(Int.negSucc b<0):=Int.negSucc_lt_zero b;simp only[c,d,decide_false,decide_true,L1,nf,↓reduceIte];rfl
 |negSucc a=>cases y with
  |ofNat b=>have c:(Int.negSucc a<0):=Int.negSucc_lt_zero a;have d:¬(Int.ofNat b<0):=aI;simp only[c,d,decide_false,decide_true,L2,nf,↓reduceIte];rfl
  |negSucc b=>have c:(Int.negSucc a<0):=Int.negSucc_lt_zero a;have d:(Int.negSucc b<0):=Int.negSucc_lt_zero b;simp only[c,d,decide_true,L3,I8,jk,↓reduceIte];rfl
def avv(x y:Int):(if decide (x<0)=true then-((x.natAbs%y.natAbs:Nat):Int)else((x.natAbs%y.natAbs:Nat):Int))=x.tmod y:=by
 cases x with
 |ofNat a=>have b:¬(Int.ofNat a<0):=aI;simp only[b,decide_false,jk,↓reduceIte];cases y<;>rfl
 |negSucc a=>have b:(Int.negSucc a<0):=Int.negSucc_lt_zero a;simp only[b,decide_true,↓reduceIte];cases y<;>rfl
def Te(x y:Int)(d:y≠0)(b:eY x.natAbs)(c:eY y.natAbs):bm 85 [dP x,dP y] (.aH [dP (x.tdiv y),dP (x.tmod y)]):=by have e:=b.len;have f:=c.len;refine dM (.f2 (ld _) (ld _)) (.aH (.f2 (ld _) (ld _))) (bg apx ?_);have a:=PO x.natAbs y.natAbs aa aa aa;simp only[go_sem,d85,ait,ais,dP,e_];refine use a ?_;simp only[go_sem];refine use (vf _ _) ?_;simp only[go_sem,true_and];refine use (vf _ _) ?_;simp only[go_sem,dP,e_];rw[avp,avv]
def akR(x y:Int)(q:eY x.natAbs)(r:eY y.natAbs):bm 83 [dP x,dP y] (dP (c9 x.natAbs y.natAbs)):=by
 have s:=q.len;have t:=r.len;refine dM (.f2 (ld _) (ld _)) (ld _) (bg apv ?_);simp only[go_sem,d83,aio,ain,aim,dP,e_,true_and]
 refine b8 (λk c f=>∃a b:Nat,rd 5 c=mag (aU a)/\rd 6 c=mag (aU b)/\rd 4 c=.ptr 7 0/\k=b/\c9 a b=c9 x.natAbs y.natAbs/\af (aU a)<=2000000/\af (aU b)<=2000000/\f.get 7=an [aR,.aA] 0) y.natAbs
  ⟨x.natAbs,y.natAbs,?_,?_,?_,rfl,rfl,aa,aa,?_⟩ ?_
 iterate 4 simp only[go_sem]
 rintro k c f ⟨a,b,h,d,g,rfl,m,p,e,j⟩;simp only[ail,aik,aij];by_cases l:k=0
 .subst l;have i:af (aU 0)=0:=by rw[kz];rfl
  simp(disch:=omega)only[go_sem,d,i,df];simp only[go_sem,h];refine use (vf _ _) ?_;simp only[go_sem,dP,e_,g,j];rw[<-m,Nat.gcd_zero_right];rfl
 .have i:0<af (aU k):=(uP k).2 l;have o:=PO a k aa p e;simp(disch:=omega)only[go_sem,h,d,dt];refine use o ?_;simp only[go_sem,d];have n:a%k<k:=fD _ aa;refine⟨a%k,n,k,a%k,?_,?_,?_,rfl,?_,e,c5 (Ec (ja n)) e,j⟩
  iterate 3 simp only[go_sem,g]
  .rw[<-m,rX a k,Nat.gcd_rec k a,rX]
def bk(q:Rat):au:=[.bool (decide (q.num<0)),mag (aU q.num.natAbs),aR,mag (aU (dd q))]
def bR(q:Rat):V:=.agg (bk q)
def mE(q:Rat):ct (bk q):=.f4 .bb (lE _) .bb (lE _)
def ij(q:Rat):bA (bR q):=.agg (mE q)
def eY.of{k:Nat}(h:a<2^k)(b:k<=30000000):eY a:=by exact @Go.aD.asq a 4294967296 1000000 2 32 k h (c5 b ai) ai ai
variable{h:Rat}
theorem nZ(a:h.den=1):dd h=0:=ay a
def kL{q:Rat}(h:q.den≠1):dd q=q.den:=ao h
def I1(n:Nat):dP (n:Int)=.agg [aR,mag (aU n)]:=by unfold dP e_;rw[show decide (((n:Nat):Int)<0)=false from bP aa];rfl
def u_:af (aU 0)=0:=by rw[kz];rfl
def u9(h:a≠0):0<af (aU a):=(uP a).2 h
def y6(q:Rat):bm 90 [bR q] (dP q.den):=by
 refine dM (.f1 (ij _)) (ld _) (bg apC ?_);by_cases h:q.den=1
 .have a:=nZ h;simp(disch:=omega)only[go_sem,d90,Pt,Pr,bR,bk,a,u_,dt];refine use (tG 1 ai) ?_;simp only[go_sem,dP,e_];rw[h];rfl
 .have a:=kL h;have:=u9 q.den_nz;simp(disch:=omega)only[go_sem,d90,Pt,Pr,bR,bk,a,df];rw[I1]
def TD(q:Rat):bm 91 [bR q] (aj (if q.num<0 then-1 else if q.num=0 then 0 else 1)):=by refine dM (.f1 (ij _)) (.int _ _) (bg apD ?_);simp(disch:=omega)only[go_sem,d91,aix,bR,bk];refine use (auf q.num) ?_;simp only[go_sem]
def atv(q:Rat):bm 63 [bR q] (bR (-q)):=by refine dM (.f1 (ij _)) (ij _) (bg apo ?_);simp(disch:=omega)only[go_sem,d63,ahX,bR,bk];refine use (I4 q.num) ?_;simp only[go_sem,dP,e_,true_and];rw[Rat.neg_num];unfold dd;rw[Rat.neg_den]
def QZ(a:h.den=1):∃v,bS b (ah.zero b.ag) (.agg [.bool (decide (h.num<0)),mag (aU h.num.natAbs),aR,.aA]) v/\bA v/\v=bR h:=
 ⟨_,.agg (.f4 .mm .mm .mm .gK),by
   have e:V.row 0 []=mag (aU (dd h)):=by rw[nZ a,kz];rfl
   rw[e];exact⟨ij h,rfl⟩⟩
def Ir(c:h.num=q)(a:h.den=1):∃v,bS b (ah.zero b.ag) (.agg [.bool (decide (q<0)),mag (aU q.natAbs),aR,.aA]) v/\bA v/\v=bR h:=by subst c;exact QZ a
variable{l:V}
def gR{args:au}(c:ct args)(h:dm a args (ah.zero 5) λd b=>∃v,bS b (ah.zero b.ag) d v/\bA v/\v=l):bm a args l:=rB (R:=λv=>v=l) c h
def jy{v:V}(h:v=l)(a:bA l):∃u,bS b (ah.zero b.ag) v u/\bA u/\u=l:=⟨v,.same v,by rw[h];exact a,h⟩
def BK(n:Int)(h: -9223372036854775808<=n/\n<9223372036854775808):bm 65 [aj n] (bR (n:Rat)):=by refine gR (.f1 .ii) (bg apr ?_);simp only[go_sem,d65,ahZ];refine use (tG n h) ?_;simp only[go_sem,dP,e_];exact Ir rfl rfl
def QO(q:Rat)(j:eY q.den)(F:Fr)(H:ah)(e:rd 2 F=.ptr 5 0)(c:rd 3 F=.ptr 6 0)(f:rd 4 F=.ptr 7 0)(b:H.get 5=an (e_ q.num) 0)(a:H.get 6=an (e_ q.den) 0)(bp:H.get 7=an [aR,.aA,aR,.aA] 0):
 bK (pc 35 1) (gC [.cell 4 true 4] λk d=>∃v,bS d (ah.zero d.ag) k v/\bA v/\v=bR q) F H:=by
 unfold e_ at b a;have i:=L6 (q.den:Int) j;have g:decide (((ry ((q.den:Nat):Int).natAbs:Nat):Int)=1)=decide (q.den=1):=decide_eq_decide.2 (by rw[eU];have:=Sw (n:=q.den);omega)
 simp only[go_sem,agu,agt,c,a];refine use i ?_;by_cases h:q.den=1
 .simp(disch:=assumption)only[go_sem,g,dt,e,c,f,b,a,bp];exact QZ h
 .simp(disch:=assumption)only[go_sem,g,df,e,c,f,b,a,bp];refine jy ?_ (ij q);unfold bR bk;rw[kL h,show decide (((q.den:Nat):Int)<0)=false from bP aa,eU]
def QS(n d:Int)(J:0<d)(z:eY n.natAbs)(l:eY d.natAbs)(F:Fr)(H:ah)(b:rd 2 F=.ptr 5 0)(f:rd 3 F=.ptr 6 0)(s:rd 4 F=.ptr 7 0)(a:H.ag=8)(c:H.get 5=an (e_ n) 0)(e:H.get 6=an (e_ d) 0)(bp:H.get 7=an [aR,.aA,aR,.aA] 0):
 bK (pc 35 3) (gC [.cell 4 true 4] λI q=>∃v,bS q (ah.zero q.ag) I v/\bA v/\v=bR (mkRat n d.natAbs)) F H:=by
 have p:d.natAbs≠0:=aa;have E:0<c9 n.natAbs d.natAbs:=Nat.gcd_pos_of_pos_right _ aa;have x:c9 n.natAbs d.natAbs<=d.natAbs:=Nat.gcd_le_right _ aa;have m:eY (c9 n.natAbs d.natAbs):=fu x l;have A:eY (mkRat n d.natAbs).den:=fu (mk_le n p).2 l;have i:=zD n p;have j:=El n p;have w:((d.natAbs/c9 n.natAbs d.natAbs:Nat):Int)=d.tdiv (c9 n.natAbs d.natAbs:Nat):=by obtain⟨k,rfl⟩:∃k:Nat,d=k:=⟨d.natAbs,aa⟩;rfl
 have t:=akR n d z l;have o:=L6 (c9 n.natAbs d.natAbs:Nat) (by rw[eU];exact m);obtain⟨g,D⟩:∃g,g=c9 n.natAbs d.natAbs:=⟨_,rfl⟩;rw[<-D]at E x m i j w t o;rw[eU]at o;have u:decide (1<((ry g:Nat):Int))=decide (1<g):=decide_eq_decide.2 (by have r:=Sw (n:=g);have b:=ard (n:=g);omega)
 have G:=Te n (g:Int) aa z (by rw[eU];exact m);have y:=Te d (g:Int) aa l (by rw[eU];exact m);rw[<-w]at y;have B:=c;have C:=e;unfold e_ at c e;simp only[go_sem,agw,agv,b,f,c,e];refine use t ?_;simp only[go_sem,dP,e_,a];refine use o ?_;by_cases h:1<g
 .simp(disch:=assumption)only[go_sem,u,dt,b,a,c];refine use G ?_;simp(disch:=assumption)only[go_sem,dP,e_,b,f,a,c,e];refine use y ?_;simp(disch:=assumption)only[go_sem,dP,e_,f,a,e];refine QO _ A _ _ ?_ ?_ ?_ ?_ ?_ ?_
  iterate 3 simp only[go_sem,b,f,s]
  .rw[i];simp only[go_sem,e_]
  .rw[j];simp only[go_sem,e_]
  .simp only[go_sem,bp,a]
 .have r:g=1:=aa;subst r;rw[show((1:Nat):Int)=1 from rfl,Int.tdiv_one]at i;rw[pA]at j;simp(disch:=assumption)only[go_sem,u,df];refine QO _ A _ _ ?_ ?_ ?_ ?_ ?_ ?_
  iterate 3 simp only[go_sem,b,f,s]
  .rw[i];simp only[go_sem,B,a]
  .rw[j,(aa:((d.natAbs:Nat):Int)=d)];simp only[go_sem,C,a]
  .simp only[go_sem,bp,a]
def zi(n d:Int)(f:d≠0)(c:eY n.natAbs)(b:eY d.natAbs):bm 35 [dP n,dP d] (bR (oE n d)):=by
 refine gR (.f2 (ld _) (ld _)) (bg aoY ?_);by_cases h:d<0
 .have e:oE n d=mkRat (-n) (-d).natAbs:=by obtain⟨k,rfl⟩:∃k:Nat,d= -(k:Int):=⟨d.natAbs,aa⟩;rw[<-Rat.neg_divInt_neg,Int.neg_neg,Rat.divInt_ofNat];simp
  simp(disch:=assumption)only[go_sem,d35,OS,dP,e_,dt];refine use (I4 n) ?_;simp(disch:=assumption)only[go_sem,dP,e_,true_and];have a:=I4 d;simp only[dP,e_,b3 h]at a;refine use a ?_;simp(disch:=assumption)only[go_sem];rw[e];refine QS (-n) (-d) aa (by rw[pY];exact c) (by rw[pY];exact b) _ _ ?_ ?_ ?_ rfl ?_ ?_ ?_
  all_goals simp only[go_sem,e_]
 .have e:oE n d=mkRat n d.natAbs:=by obtain⟨k,rfl⟩:∃k:Nat,d=(k:Int):=⟨d.natAbs,aa⟩;rw[Rat.divInt_ofNat];simp
  simp(disch:=assumption)only[go_sem,d35,OS,dP,e_,df];rw[e];refine QS n d aa c b _ _ ?_ ?_ ?_ rfl ?_ ?_ ?_
  all_goals simp only[go_sem,e_,bP h]
theorem wo(z:Int):V.agg [.bool (decide (z<0)),mag (aU z.natAbs)]=dP z:=rfl
theorem rF(q:Rat):V.agg [.bool (decide (q.num<0)),mag (aU q.num.natAbs),aR,mag (aU (dd q))]=bR q:=rfl
def zY{a:Nat}(b:m<2^a)(c:D<2^d)(h:a+d<=30000000):eY (m*D):=eY.of (wE b c) h
def yb(p q:Rat){a:Nat}(i:aM a p)(j:aM d q)(z:a+d+1<=30000000):bm 37 [bR p,bR q] (bR (p+q)):=by
 have o:eY p.num.natAbs:=eY.of i.num aa;have s:eY q.num.natAbs:=eY.of j.num aa;have r:eY p.den:=eY.of i.den aa;have t:eY q.den:=eY.of j.den aa;refine gR (.f2 (ij _) (ij _)) (bg ao8 ?_)
 have n:∀F H,rd 2 F=.ptr 5 0->rd 3 F=.ptr 6 0->rd 4 F=.ptr 7 0->H.get 5=an (bk p) 0->H.get 6=an (bk q) 0->H.get 7=an [aR,.aA,aR,.aA] 0->
  bK (pc 37 0) (gC [.cell 4 true 4] λG m=>∃v,bS m (ah.zero m.ag) G v/\bA v/\v=bR (p+q)) F H:=by
  intro F H b h y g c bp;unfold bk at g c;have B:eY (p.num*(q.den:Int)).natAbs:=by rw[nM];exact zY i.num j.den aa
  have C:eY (q.num*(p.den:Int)).natAbs:=by rw[nM];exact zY j.num i.den aa
  have D:eY ((p.den:Int)*(q.den:Int)).natAbs:=by rw[nM];exact zY i.den j.den aa
  have E:eY (p.num*(q.den:Int)+q.num*(p.den:Int)).natAbs:=by refine fu (Int.natAbs_add_le _ _) ?_;rw[nM,nM];have I:=wE i.num j.den;have u:=wE j.num i.den;rw[i_ d a]at u;refine eY.of (k:=a+d+1) ?_ z;rw[dX];show p.num.natAbs*q.den+q.num.natAbs*p.den<_;omega
  have A:((p.den:Int)*(q.den:Int))≠0:=by have k:=p.den_nz;have b:=q.den_nz;exact Int.mul_ne_zero aa aa
  have e:oE (p.num*(q.den:Int)+q.num*(p.den:Int)) ((p.den:Int)*(q.den:Int))=p+q:=by rw[yN,<-fF,Rat.divInt_ofNat]
  simp only[go_sem,agR,wo,rF,b,h,g,c];refine use (y6 q) ?_;simp only[go_sem,wo,rF,b,h,g,c,true_and];refine use (zF _ _ o (by rw[eU];exact t)) ?_;simp only[go_sem,wo,rF,b,h,g,c,true_and];refine use (y6 p) ?_;simp only[go_sem,wo,rF,b,h,g,c,true_and];refine use (zF _ _ s (by rw[eU];exact r)) ?_;simp only[go_sem,rF,b,h,g,c,true_and];refine use (K_ _ _ B C) ?_;simp only[go_sem,rF,b,h,g,c,true_and];refine use (y6 p) ?_;simp only[go_sem,rF,h,c,true_and];refine use (y6 q) ?_;simp only[go_sem];refine use (zF _ _ (by rw[eU];exact r) (by rw[eU];exact t)) ?_;simp only[go_sem];refine use (zi _ _ A E D) ?_;rw[e];simp only[go_sem,bR,bk,y,bp];exact jy rfl (ij _)
 by_cases k:p.den=1
 .by_cases b:q.den=1
  .have f:=nZ k;have l:=nZ b;obtain⟨w,x⟩:=add_one k b;simp(disch:=omega)only[go_sem,d37,HA,bR,bk,f,l,u_,wo,kh,decide_true];refine use (K_ _ _ o s) ?_;simp only[go_sem,dP,e_];exact Ir w x
  .have f:=nZ k;have l:=kL b;have K:=u9 q.den_nz;simp(disch:=omega)only[go_sem,d37,HA,bR,bk,f,l,u_,df,kh,decide_true];refine n _ _ ?_ ?_ ?_ ?_ ?_ ?_
   all_goals simp only[go_sem,bk,f,l]
 .have f:=kL k;have J:=u9 p.den_nz;simp(disch:=omega)only[go_sem,d37,HA,bR,bk,f,df];refine n _ _ ?_ ?_ ?_ ?_ ?_ ?_
  all_goals simp only[go_sem,bk,f]
def sF(p q:Rat){a:Nat}(g:aM a p)(h:aM d q)(C:a+d<=30000000):bm 38 [bR p,bR q] (bR (p*q)):=by
 have r:eY p.num.natAbs:=eY.of g.num aa;have s:eY q.num.natAbs:=eY.of h.num aa;have z:eY p.den:=eY.of g.den aa;have A:eY q.den:=eY.of h.den aa;refine gR (.f2 (ij _) (ij _)) (bg ao9 ?_)
 have n:∀F H,rd 2 F=.ptr 5 0->rd 3 F=.ptr 6 0->rd 4 F=.ptr 7 0->H.get 5=an (bk p) 0->H.get 6=an (bk q) 0->H.get 7=an [aR,.aA,aR,.aA] 0->
  bK (pc 38 0) (gC [.cell 4 true 4] λB m=>∃v,bS m (ah.zero m.ag) B v/\bA v/\v=bR (p*q)) F H:=by
  intro F H c l w k j bp;unfold bk at k j;have o:eY (p.num*q.num).natAbs:=by rw[nM];exact zY g.num h.num aa
  have y:eY ((p.den:Int)*(q.den:Int)).natAbs:=by rw[nM];exact zY g.den h.den aa
  have x:((p.den:Int)*(q.den:Int))≠0:=by have f:=p.den_nz;have c:=q.den_nz;exact Int.mul_ne_zero aa aa
  have e:oE (p.num*q.num) ((p.den:Int)*(q.den:Int))=p*q:=by rw[Bq,<-fF,Rat.divInt_ofNat]
  simp only[go_sem,agS,wo,rF,c,l,k,j];refine use (zF _ _ r s) ?_;simp only[go_sem,rF,c,l,k,j,true_and];refine use (y6 p) ?_;simp only[go_sem,rF,l,j,true_and];refine use (y6 q) ?_;simp only[go_sem];refine use (zF _ _ (by rw[eU];exact z) (by rw[eU];exact A)) ?_;simp only[go_sem];refine use (zi _ _ x o y) ?_;rw[e];simp only[go_sem,bR,bk,w,bp];exact jy rfl (ij _)
 by_cases f:p.den=1
 .by_cases c:q.den=1
  .have b:=nZ f;have i:=nZ c;obtain⟨t,u⟩:=mul_one f c;have o:eY (p.num*q.num).natAbs:=by rw[nM];exact zY g.num h.num aa
   simp(disch:=omega)only[go_sem,d38,HB,bR,bk,b,i,u_,wo,kh,decide_true];refine use (zF _ _ r s) ?_;simp only[go_sem,dP,e_];exact Ir t u
  .have b:=nZ f;have i:=kL c;have E:=u9 q.den_nz;simp(disch:=omega)only[go_sem,d38,HB,bR,bk,b,i,u_,df,kh,decide_true];refine n _ _ ?_ ?_ ?_ ?_ ?_ ?_
   all_goals simp only[go_sem,bk,b,i]
 .have b:=kL f;have D:=u9 p.den_nz;simp(disch:=omega)only[go_sem,d38,HB,bR,bk,b,df];refine n _ _ ?_ ?_ ?_ ?_ ?_ ?_
  all_goals simp only[go_sem,bk,b]
def BS(p q:Rat){a:Nat}(c:aM a p)(e:aM d q)(b:a+d+1<=30000000):bm 39 [bR p,bR q] (bR (p-q)):=by refine dM (.f2 (ij _) (ij _)) (ij _) (bg ao_ ?_);simp only[go_sem,d39,agT,bR,bk];refine use (atv q) ?_;simp only[go_sem,rF,true_and];refine use (yb p (-q) c e.neg b) ?_;rw[Rat.sub_eq_add_neg];simp only[go_sem,bR,bk]
def e6(q:Rat):Int:=if q.num<0 then-1 else if q.num=0 then 0 else 1
def BM(p q:Rat){a:Nat}(c:aM a p)(e:aM d q)(b:a+d+1<=30000000):bm 40 [bR p,bR q] (aj (e6 (p-q))):=by refine dM (.f2 (ij _) (ij _)) (.int _ _) (bg ao' ?_);simp only[go_sem,d40,agU,bR,bk];refine use (BS p q c e b) ?_;simp only[go_sem,rF];refine use (TD (p-q)) ?_;simp only[go_sem,e6]
theorem al5{v:V}{k:IntKind}(h:bn b 1 v (bC g) a)(hi:d<af g):∃c,dO none 1 [v,.int k (d:Int)]=some (.val (.ptr c d))/\b.get c=an (bC g) a/\b.gr c a=true:=by
 generalize e:bC g=o at h
 cases h with
 |nil=>
  have:=congrArg af e
  grind [iT,p5]
 |cells i m l f n hl j=>grind [iT,wB,cH]
def Cx(p w i:Nat)(e:V)(f:av)(g3:Nat):Nat->cm:=λk a b=>∃(s:Nat) (d:V) (c:Nat),k=s/\s<=9/\rd 3 a=e/\rd 8 a=aj i/\rd 7 a=d/\rd 9 a=.int .u32 (((10^s/10:Nat)):Int)/\bn b 1 d (cV (ds (w*10^(9-s)+p/10^s))) c/\af (ds (w*10^(9-s)+p/10^s))<=af (ds w)+(9-s)/\(c=0\/c≠g3)/\bn b 1 e (bC f) g3/\g3<b.ag
theorem aiR(p w:Nat)(hp:p<1000000000)(i:Nat)(b W:V)(bp:Nat)(F:Fr)(H:ah)(R:b5)(f:av)(g3:Nat)(h3:bn H 1 b (bC f) g3)(hi:i<af f)(bb:f.getD i 0=p)
 (hw:af (ds w)+9<=1000000000) (h7:bn H 1 W (cV (ds w)) bp) (a9:bp=0\/bp≠g3) (a6:g3<H.ag) (aw:rd 3 F=b) (a0:rd 7 F=W) (a1:rd 8 F=aj i) (a2:rd 9 F=.int .u32 100000000)
 (hR:∀z A r q,rd 3 z=b->rd 8 z=aj i->rd 7 z=r->bn A 1 r (cV (ds (p+1000000000*w))) q->(q=0\/q≠g3)->bn A 1 b (bC f) g3->g3<A.ag->R (.exit 4) z A):
 bK (.loop (pc 68 6)) R F H:=by
 refine b8 (Cx p w i b f g3) 9
  ⟨9,W,bp,rfl,aJ _,aw,a1,a0,by rw[a2];rfl,?_,?_,a9,h3,a6⟩ ?_
 .grind
 .grind
 rintro k bs E ⟨s,r,q,rfl,hs,j,l,v,g,n,a8,P,B,ab⟩;rw[ah'];cases k with
 |zero=>
  simp only[r0,show 1/10=0 from rfl,Nat.sub_zero,pA]at g n;simp(disch:=omega)only[go_sem,g,kh,df];refine hR _ _ r q ?_ ?_ ?_ ?_ P B ab
  iterate 3 simp only[go_sem,j,l,v]
  grind
 |succ s=>
  have bd:10^(s+1)/10=10^s:=aa;have be:0<10^s:=gE ai;have bc:10^s<=10^8:=iI ai aa;have D:=aiS w p s aa;rw[bd]at g;obtain⟨d,y⟩:∃d,d=10^s:=⟨_,rfl⟩;obtain⟨x,o⟩:∃x,x=p/d:=⟨_,rfl⟩;obtain⟨c,X⟩:∃c,c=x%10:=⟨_,rfl⟩;have Y:c<10:=aa;obtain⟨u,hu⟩:∃u,u=w*10^(9-(s+1))+p/10^(s+1):=⟨_,rfl⟩;rw[<-y]at g be bc D;rw[<-o,<-X,<-hu]at D;rw[<-hu]at n a8;obtain⟨ar,T,bX,l3⟩:=al5 (k:=.i64) B hi;have O:tM false 1 i E ar (an (bC f) g3)=some (.int .u32 (p:Int)):=by rw[Bb l3,iK hi,bb]
  have b':((d:Nat):Int)≠0:=aa;have cb:x<4294967296:=by rw[o];exact fu (js _ _) aa
  have M:((x:Nat):Int).tmod 10=(c:Int):=by rw[X];rfl
  have S:aE .u8 (48+(c:Int))=((48+c:Nat):Int):=by rw[UM];omega
  have N:aE .u32 (48+(c:Int))=48+(c:Int):=iU _ aa;have C:=n.len ai;rw[j6,pA]at C;have ba:((d:Nat):Int).tdiv 10=((10^s/10:Nat):Int):=by rw[y];rfl
  have b0:(10:Int)≠0:=ai;have b2:10^s/10<4294967296:=by rw[<-y];omega
  have a5:[V.int .u8 ((48+c:Nat):Int)]=cV [iD (48+c)]:=by
   simp only[cV,List.map_cons,List.map_nil]
   grind [UInt8.toNat_ofNat']
  have done:∀(a:Fr) (h:ah) (t:V) (m:Nat),rd 3 a=b->rd 8 a=aj i->rd 7 a=t->rd 9 a=.int .u32 (d:Int)->bn h 1 t (cV (ds (10*u+c))) m->af (ds (10*u+c))<=af (ds u)+1->(m=0\/m≠g3)->bn h 1 b (bC f) g3->g3<h.ag->
   bK (pc 68 4) (gy (qT (Cx p w i b f g3) (s+1)) R) a h:=by
   intro a h t m G I a7 J al bv am ad ap;simp(disch:=assumption)only[go_sem,ah_,J,j5,ba];rw[iU _ aa];refine⟨s,nO s,s,t,m,rfl,aa,?_,?_,?_,?_,?_,?_,am,ad,ap⟩
   iterate 4 simp only[go_sem,G,I,a7]
   .rw[<-y,<-o,D];exact al
   .rw[<-y,<-o,D];omega
  have append:ds (10*u+c)=ds u++[iD (48+c)]->∀(a:Fr),rd 3 a=b->rd 8 a=aj i->rd 9 a=.int .u32 (d:Int)->
   gW (some 60) (k5 e9 5 [ex 7 (bJ (rd 60))] (hD 5 (gy (bK (pc 68 4) (gy (qT (Cx p w i b f g3) (s+1)) R)) (gy (qT (Cx p w i b f g3) (s+1)) R)) .norm)) a
    (fU 1 1 [r,.slice E.ag 0 1 (.known 1)] (E.push (an [V.int .u8 ((48+c:Nat):Int)] 0))):=by
   intro Z a G I J;refine P2 n rfl ⟨by rw[j6];omega,ai⟩ λt h m U cf bi bj=>?_
   have bo:bn h 1 b (bC f) g3:=B.other n (ja bj) bi P;simp only[go_sem];refine done _ _ t m ?_ ?_ ?_ ?_ ?_ ?_ ?_ bo aa
   iterate 4 simp only[go_sem,G,I,J]
   .rw[Z];rw[a5]at U;unfold cV at U⊢;rw[vJ];exact U
   .rw[Z,bw];simp
   .omega
  by_cases K:0<af (ds u)
  .have a':u≠0:=λe=>by rw[e,pF]at K;exact absurd K (Nat.lt_irrefl _)
   simp(disch:=omega)only[go_sem,HC,g,j,l,v,dt,T,bX,O,j5,nY,t_,<-o,iU,M,N,S,C];refine append (Dv u c Y (.inl a')) _ ?_ ?_ ?_
   iterate 3 simp only[go_sem,j,l,g]
  .have Q:u=0:=qI λe=>K (List.length_pos_iff.2 (Du e))
   by_cases L:c=0
   .simp(disch:=omega)only[go_sem,HC,g,j,l,v,dt,df,T,bX,O,j5,nY,t_,<-o,iU,M,N,S,C];refine done _ _ r q ?_ ?_ ?_ ?_ ?_ ?_ P B ab
    iterate 4 simp only[go_sem,j,l,v,g]
    .rw[Q,L];rw[Q]at n;exact n
    .rw[Q,L];exact s9 _
   .simp(disch:=omega)only[go_sem,HC,g,j,l,v,dt,df,T,bX,O,j5,nY,t_,<-o,iU,M,N,S,C];refine append (Dv u c Y (.inr L)) _ ?_ ?_ ?_
    iterate 3 simp only[go_sem,j,l,g]
def aiP(a:av)(d:Nat):bC a++[V.int .u32 (d:Int)]=bC (a++[d]):=by simp[bC]
theorem ar6(n k:Nat)(w:n<2^k)(G:k<=30000000)(F:Fr)(H:ah)(R:b5)(y:rd 3 F=.aA)(z:rd 4 F=mag (aU n))(B:H.ag≠0)
 (C:∀o f v g b,rd 3 o=v->bn f 1 v (bC b) g->pv b=n->(∀p∈b,p<1000000000)->af b<=10000000->g<f.ag->R (.exit 0) o f):
 bK (.loop (pc 68 3)) R F H:=by
 refine b8 (λj e i=>∃(m:Nat) (b:av) (v:V) (g:Nat),j=m/\rd 3 e=v/\rd 4 e=mag (aU m)/\bn i 1 v (bC b) g/\pv b+1000000000^(af b)*m=n/\m*2^(29*af b)<=n/\m<=n/\(∀p∈b,p<1000000000)/\af b<=10000000/\g<i.ag) n
  ⟨n,[],.aA,0,rfl,y,z,.nil,by simp[pv],aI,aJ _,(λ_ h=>by cases h),aI,lC B⟩ ?_
 rintro j e i ⟨m,b,v,g,rfl,q,r,t,x,u,J,K,hl,E⟩;rw[ah9];by_cases c:j=0
 .subst c;simp(disch:=omega)only[go_sem,r,u_,kh,df];refine C _ _ v g b ?_ t (by simpa using x) K hl E;simp only[go_sem,q]
 .have P:=u9 c;have L:eY j:=eY.of (fu J w) G;have s:=TV (aU j) 1000000000 (iX _) ⟨ai,ai⟩ (by have:=L.len;omega);rw[gU]at s;have O:29*af b<k:=by refine(Nat.pow_lt_pow_iff_right (a:=2) ai).1 (fu ?_ w);refine c5 ?_ u;exact yI _ (lC c)
  simp(disch:=omega)only[go_sem,ah8,r,dt];refine use s ?_;simp(disch:=omega)only[go_sem,ah1,q];refine P2 t rfl ⟨by rw[iT];omega,ai⟩ λM N A l d Q S=>?_
  simp only[go_sem,ah0];have D:=Nat.mod_add_div j 1000000000;refine⟨j/1000000000,Nat.div_lt_self (lC c) ai,j/1000000000,b++[j%1000000000],M,A,rfl,?_,?_,?_,?_,?_,?_,?_,?_,?_⟩
  iterate 2 simp only[go_sem]
  .rw[<-aiP];exact l
  .rw[asG b _ _ D];exact x
  .rw[bw,iA,dL,eD,iB,<-dx,xk];refine c5 (ei _ ?_) u;omega
  .omega
  .grind
  .grind
  .rcases d with⟨_,d⟩|⟨_,d⟩
   .generalize bC b++[V.int .u32 ((j%1000000000:Nat):Int)]=T at l
    cases l with
    |nil=>omega
    |cells _ _ _ _ _ I _=>exact I
   .rw[d];omega
def apS(a:av)(O:∀p∈a,p<1000000000)(hl:af a<=10000000)(c:V)(g3:Nat)(F:Fr)(H:ah)(R:b5)(G:bn H 1 c (bC a) g3)(K:g3<H.ag)(z:rd 3 F=c)(A:rd 7 F=.aA)(B:rd 8 F=aj ((af a:Int)-1))
 (I:∀f j v g,rd 7 f=v->bn j 1 v (cV (ds (pv a))) g->R (.exit 2) f j):
 bK (.loop (pc 68 9)) R F H:=by
 refine b8 (λk b d=>∃(v:V) (g:Nat),rd 3 b=c/\rd 7 b=v/\rd 8 b=aj ((k:Int)-1)/\k<=af a/\bn d 1 v (cV (ds (pv (a.drop k)))) g/\af (ds (pv (a.drop k)))<=9*(af a-k)/\(g=0\/g≠g3)/\bn d 1 c (bC a) g3/\g3<d.ag) (af a)
  ⟨.aA,0,z,A,B,aJ _,?_,?_,.inl rfl,G,K⟩ ?_
 .rw[mR (aJ _),show pv []=0 from rfl,pF];exact .nil
 .rw[mR (aJ _),show pv []=0 from rfl,pF];simp
 rintro k b d ⟨v,g,C,m,n,T,q,U,N,L,M⟩;rw[aic];cases k with
 |zero=>simp(disch:=omega)only[go_sem,n,dt];refine I _ _ v g ?_ q;simp only[go_sem,m]
 |succ i=>
  have o:rd 8 b=aj i:=by rw[n];congr 1;omega
  have hi:i<af a:=aa;have r:a.getD i 0<1000000000:=by refine O _ ?_;rw[bT,c4 hi];exact s5 hi
  have e:=asF hi;simp(disch:=omega)only[go_sem,aib,o,df];refine aiR (a.getD i 0) (pv (a.drop (i+1))) r i c v g _ _ _ a g3 L hi rfl aa q N M ?_ ?_ ?_ ?_ ?_
  iterate 4 simp only[go_sem,C,m,o]
  intro Q S P D s w u l y t x;rw[<-e]at l;rw[gb];have J:af (ds (pv (a.drop i)))<=9*(af a-i):=by
   by_cases E:pv (a.drop (i+1))=0
   .rw[e,E,gj,dG];have:=qZ (n:=a.getD i 0) (k:=9) r;omega
   .refine qZ ?_;have W:pv (a.drop (i+1))<10^(9*(af a-(i+1))):=by
     refine uC λh=>?_
     have:=aje h;omega
    rw[e,(aa:9*(af a-i)=9*(af a-(i+1))+9),iB];omega
  simp(disch:=omega)only[go_sem,aia,w,aK];refine⟨i,nO i,P,D,?_,?_,?_,aa,l,J,y,t,x⟩
  iterate 3 simp only[go_sem,s,u]
def PN(z:Int)(o:z.natAbs<2^a)(j:a<=30000000):bm 68 [dP z] (.str (dec z.natAbs)):=by
 refine dM (.f1 (ld _)) (.str _) (bg aps ?_);by_cases h:z.natAbs=0
 .have hl:af (aU z.natAbs)=0:=by rw[h];exact u_
  simp(disch:=omega)only[go_sem,d68,Pg,dP,e_,hl,kh,decide_true];rw[h];rfl
 .have hl:=u9 h;simp(disch:=omega)only[go_sem,d68,Pg,ah7,ah6,ah5,dP,e_,df];refine ar6 z.natAbs a o j _ _ _ ?_ ?_ ?_ ?_
  iterate 2 simp only[go_sem]
  .exact Nat.succ_ne_zero _
  intro q s v g p b c m l k f;have d:=c.len ai;rw[iT,pA]at d;rw[gb];simp(disch:=omega)only[go_sem,ah4,ah3,b,d,aK];refine apS p l k v g _ _ _ c f ?_ ?_ ?_ ?_
  iterate 3 simp only[go_sem,b]
  intro r t w u e i;rw[gb];have n:=i.str;simp(disch:=omega)only[go_sem,ah2,e,n];rw[m];unfold dec;rw[ao h]
def BX{s t:aW}(h:af s+af t<=9223372036854775807):sK (tD .add) [.str s,.str t]=some (.val (.str (s++t))):=by show aX (b6 (gY (c_ s) (c_ t)) 9223372036854775807) (some (bh.val (.str (dJ s t))))=_;rw[iW,iw,iw,show(s.length.add (af t)).ble 9223372036854775807=true from lD h];rfl
def z2(q:Rat)(d:aM a q)(f:a<=30000000):bm 22 [bR q] (.str (aO q)):=by
 refine dM (.f1 (ij _)) (.str _) (bg aof ?_);have i:=PN q.num d.num f;have e:=PN (q.den:Int) (by rw[eU];exact d.den) f;rw[eU]at e;have l:=y5 d.num;have m:=y5 d.den;have g:sK (tD .add) [.str [45],.str (dec q.num.natAbs)]=some (.val (.str ([45]++dec q.num.natAbs))):=BX e7;have h:sK (tD .add) [.str [47],.str (dec q.den)]=some (.val (.str ([47]++dec q.den))):=BX e7;have j:sK (tD .add) [.str ([45]++dec q.num.natAbs),.str ([47]++dec q.den)]=some (.val (.str (([45]++dec q.num.natAbs)++([47]++dec q.den)))):=BX e7;have k:sK (tD .add) [.str (dec q.num.natAbs),.str ([47]++dec q.den)]=some (.val (.str (dec q.num.natAbs++([47]++dec q.den)))):=BX e7;simp only[go_sem,d22,acS,bR,bk,wo];refine use i ?_;by_cases c:q.num<0
 .by_cases b:q.den=1
  .have hl:af (aU (dd q))=0:=by rw[nZ b];exact u_
   simp(disch:=first|assumption|omega)only[Dj,Di,Dh,go_sem,↓reduceIte,mz,dt,df,hl,g]
   simp[aO,c,b]
  .have hl:0<af (aU (dd q)):=by rw[kL b];exact u9 q.den_nz
   simp(disch:=first|assumption|omega)only[Dj,Di,Dh,go_sem,↓reduceIte,mz,dt,g]
   rw[kL b,<-I1];refine use e ?_;simp only[go_sem,h,j];simp[aO,c,b]
 .by_cases b:q.den=1
  .have hl:af (aU (dd q))=0:=by rw[nZ b];exact u_
   simp(disch:=first|assumption|omega)only[Dj,Di,Dh,go_sem,↓reduceIte,mz,df,hl]
   simp[aO,c,b]
  .have hl:0<af (aU (dd q)):=by rw[kL b];exact u9 q.den_nz
   simp(disch:=first|assumption|omega)only[Dj,Di,Dh,go_sem,↓reduceIte,mz,dt,df]
   rw[kL b,<-I1];refine use e ?_;simp only[go_sem,h,k];simp[aO,c,b]
def bL(e:av):au:=e.map λn:Nat=>V.int .i64 (n:Int)
def bf(e:av):V:=.row (af e) (bL e)
theorem jz(e:av):af (bL e)=af e:=by simp[bL]
theorem jc{l:av}{i:Nat}(h:i<af l):dw (bL l) i=some (aj (l.getD i 0:Nat)):=by rw[iu];simp[bL,h]
def Ib(l:av):ct (bL l):=ct.iff.2 λv h=>by simp only[bL,g8]at h;obtain⟨d,_,rfl⟩:=h;exact .int _ _
def n6(l:av):bA (bf l):=.row _ (Ib l)
@[go_sem]theorem azV(l:av):di (bf l)=some (.val (aj (af l))):=rfl
@[go_sem]theorem azv(l:av):bM (bf l)=true:=rfl
@[go_sem]theorem ayS(l:av):cellsOf (bf l)=[bf l]:=rfl
@[go_sem]theorem aAp(l:av):V.one (bf l)=true:=rfl
def j8{l:av}{i:Int}{k:IntKind}(h:0<=i/\i<af l):dO none 1 [bf l,.int k i]=some (.val (.dY (bL l) i.toNat)):=by rw[bf,nx h,eD]
def Ca{l:av}{i:Nat}(h:i<af l):(l.take (i+1)).sum=(l.take i).sum+l.getD i 0:=by rw[lT h,List.sum_append];simp[bT,h]
def B_(l:av)(i:Nat):(l.take i).sum<=l.sum:=by have:=congrArg List.sum (p6 i l);rw[List.sum_append]at this;omega
def EJ(h:a<af g):(g.take (a+1)).reverse=g.getD a 0::(g.take a).reverse:=by rw[lT h];simp[bT,h]
def SS(a b:av)(hl:af a=af b)(I:af a<=1000000000)(F:a.sum<=1000000000000)(G:b.sum<=1000000000000):bm 183 [bf a,bf b] (aj (ord a b)):=by
 refine dM (.f2 (n6 _) (n6 _)) (.int _ _) (bg an7 ?_);simp only[go_sem,d183,abI,abO];refine b8 (λk c r=>∃i:Nat,rd 0 c=bf a/\rd 1 c=bf b/\rd 5 c=aj (((a.take i).sum:Nat):Int)/\rd 6 c=aj (((b.take i).sum:Nat):Int)/\rd 7 c=aj i/\k=af a-i/\i<=af a) (af a) ⟨0,?_,?_,?_,?_,?_,rfl,cj _⟩ ?_
 iterate 2 simp only[go_sem]
 .simp only[go_sem,vM];rfl
 .simp only[go_sem,vM];rfl
 .simp only[go_sem];rfl
 rintro k c r ⟨i,e,p,f,g,m,rfl,hi⟩;rw[abJ];by_cases y:i<af a
 .have D:=B_ a (i+1);have E:=B_ b (i+1);have d:=Ca y;have x:=Ca (l:=b) (i:=i) aa;simp(disch:=omega)only[go_sem,abH,abG,e,p,f,g,m,dt,j8,cg,jc,aK,true_and];refine⟨af a-(i+1),aa,i+1,?_,?_,?_,?_,?_,rfl,aa⟩
  iterate 2 simp only[go_sem,e,p]
  .simp only[go_sem];rw[d];rfl
  .simp only[go_sem];rw[x];rfl
  .simp only[go_sem];rfl
 .have z:i=af a:=aa;subst z;rw[dr (aJ _)]at f;rw[dr aa]at g;by_cases u:a.sum=b.sum
  .simp(disch:=omega)only[go_sem,GR,abN,e,f,g,m,dt,df,aK];have n:ord a b=rl a.reverse b.reverse:=ay u;refine b8 (λk c r=>rd 0 c=bf a/\rd 1 c=bf b/\rd 8 c=aj ((k:Int)-1)/\k<=af a/\rl (a.take k).reverse (b.take k).reverse=ord a b) (af a) ⟨?_,?_,?_,aJ _,?_⟩ ?_
   iterate 3 simp only[go_sem,e,p]
   .rw[dr (aJ _),dr aa,n]
   rintro k w C ⟨l,d,s,H,h⟩;rw[abL];cases k with
   |zero=>simp(disch:=omega)only[go_sem,abM,s,dt];rw[<-h];rfl
   |succ j=>
    have o:rd 8 w=aj j:=by rw[s];congr 1;omega
    have A:j<af a:=aa;have B:j<af b:=aa;rw[EJ A,EJ B]at h;by_cases q:a.getD j 0=b.getD j 0
    .simp(disch:=omega)only[go_sem,GQ,abK,l,d,o,dt,df,j8,cg,jc,aK];refine⟨j,nO j,?_,?_,?_,aa,?_⟩
     iterate 3 simp only[go_sem,l,d]
     .rw[<-h];simp only[rl];rw[ay q]
    .by_cases v:b.getD j 0<a.getD j 0
     .simp(disch:=omega)only[go_sem,GQ,l,d,o,dt,df,j8,cg,jc];rw[<-h];simp only[rl];rw[ao q,ay v]
     .simp(disch:=omega)only[go_sem,GQ,l,d,o,df,j8,cg,jc];rw[<-h];simp only[rl];rw[ao q,ao v]
  .have n:ord a b=if a.sum<b.sum then-1 else 1:=ao u
   by_cases t:a.sum<b.sum
   .simp(disch:=omega)only[go_sem,GR,e,f,g,m,dt,df];rw[n,ay t]
   .simp(disch:=omega)only[go_sem,GR,e,f,g,m,df];rw[n,ao t]
def gz(t:b9):au:=[.bool (decide (t.1.num<0)),mag (aU t.1.num.natAbs),aR,mag (aU (dd t.1)),bf t.2]
def dS:aF->au
 |[]=>[]
 |t::l=>gz t++dS l
def bN(l:aF):V:=.row (af l) (dS l)
def Qp(t:b9):ct (gz t):=.f5 .bb (lE _) .bb (lE _) (n6 _)
variable{c:au}
def l5{a:au}(b:ct a)(d:ct c):ct (a++c):=ct.iff.2 λv h=>by
 rcases ki.1 h with h|h
 .exact ct.iff.1 b v h
 .exact ct.iff.1 d v h
def Qq:∀l,ct (dS l)
 |[]=>.nil
 |t::l=>l5 (Qp t) (Qq l)
theorem uT(l:aF):bA (bN l):=.row _ (Qq l)
theorem mM:∀l,af (dS l)=af l*5
 |[]=>rfl
 |t::l=>by simp only[dS,bw,mM l,dZ];have:af (gz t)=5:=rfl;omega
def wW:∀(l m:aF),dS (l++m)=dS l++dS m
 |[],_=>rfl
 |t::l,m=>by simp only[gv,dS,wW l m,gX]
theorem avx(l:aF)(i:Nat):(dS l).take (i*5)=dS (l.take i):=by
 induction l generalizing i with
 |nil=>simp[dS]
 |cons t l a=>
  cases i with
  |zero=>simp[dS]
  |succ i=>rw[qR,i_];show(gz t++dS l).take (af (gz t)+i*5)=gz t++dS (l.take i);rw[List.take_length_add_append,a]
theorem Ff(l:aF)(i:Nat):(dS l).drop (i*5)=dS (l.drop i):=by
 induction l generalizing i with
 |nil=>simp[dS]
 |cons t l a=>
  cases i with
  |zero=>simp[dS]
  |succ i=>rw[qR,i_];show(gz t++dS l).drop (af (gz t)+i*5)=dS (l.drop i);simp_all
variable{k:aF}{N:b9}
def Cf(h:k[a]? =some N):cW (eH (dS k) (a*5)) 5=some (gz N):=by obtain⟨hi,rfl⟩:=jo.1 h;rw[l8,Ff,mQ hi];show cW (gz k[a]++dS _) 5=_;rw[fB,ay (by simp[gz])];rfl
def yp(h:k[a]? =some N):cW (eH (dS k) (a*5)) 4=some (bk N.1):=by obtain⟨hi,rfl⟩:=jo.1 h;rw[l8,Ff,mQ hi];show cW (gz k[a]++dS _) 4=_;rw[fB,ay (by simp[gz])];rfl
def ua(h:k[a]? =some N):dw (dS k) (a*5+4)=some (bf N.2):=by obtain⟨hi,rfl⟩:=jo.1 h;have:=congrArg (λx:au=>x[4]?) (Ff k a);simp only[yD]at this;rw[iu,this,mQ hi];rfl
def ny{l:aF}{i:Int}{k:IntKind}(h:0<=i/\i<af l):dO none 5 [bN l,.int k i]=some (.val (.dY (dS l) (i.toNat*5))):=nx h
@[go_sem]theorem az5(l:aF):di (bN l)=some (.val (aj (af l))):=rfl
@[go_sem]theorem azI(l:aF):bM (bN l)=true:=rfl
@[go_sem]theorem ay1(l:aF):cellsOf (bN l)=[bN l]:=rfl
@[go_sem]theorem aAy(l:aF):V.one (bN l)=true:=rfl
theorem aur(a:0<=q/\q<=af k):slice3 (kG 5) false true false [bN k,.int p q]=some (.val (bN (k.take q.toNat))):=by
 unfold bN
 grind [EZ,mM,avx,e8]
theorem aus(a:0<=q/\q<=af k):slice3 (kG 5) true false false [bN k,.int p q]=some (.val (bN (k.drop q.toNat))):=by
 unfold bN
 grind [aup,mM,Ff,lB]
def j0(n:Nat)(l:aF):Prop:=∀t∈l,t.2.length=n/\t.2.sum<=1000000000000
def j0.take(h:j0 a k)(i:Nat):j0 a (k.take i):=λt b=>h t (oD b)
def j0.drop(h:j0 a k)(i:Nat):j0 a (k.drop i):=λt b=>h t (List.mem_of_mem_drop b)
def j0.ke(h:j0 a k):j0 a (ke k):=λt b=>h t ((wV k).mem_iff.1 b)
theorem QY{v:V}(h:bn b 5 v (dS k) a):bS b (ah.zero b.ag) v (bN k):=by obtain⟨n,c,d⟩:=h.eA (H2:=ah.zero b.ag) ai (λ_ _ _=>m7) (dn.refl _);rw[mM]at d;have:n=af k:=aa;rw[this]at c;exact c
def FH(a b:aF)(k:Nat)(F:Fr)(H:ah):Prop:=∃(i j:Nat) (m:aF) (v:V) (g:Nat),k=(af a-i)+(af b-j)/\rd 3 F=bN a/\rd 4 F=bN b/\rd 5 F=v/\rd 6 F=aj i/\rd 7 F=aj j/\i<=af a/\j<=af b/\bn H 5 v (dS m) g/\af m=i+j/\m++vK (a.drop i) (b.drop j) kf=vK a b kf
theorem drop_cons(h:k[a]? =some N):k.drop a=N::k.drop (a+1):=by grind [mQ]
theorem aqL(a b:aF)(n:Nat)(hn:n<=1000000000)(D:j0 n a)(Q:j0 n b)(hl:af a+af b<=100000000)(F:Fr)(H:ah)(R:b5)(Y:rd 3 F=bN a)(Z:rd 4 F=bN b)(ab:rd 5 F=.aA)(ac:rd 6 F=aj 0)(ad:rd 7 F=aj 0)
 (hR:∀L N v g,rd 5 L=v->bn N 5 v (dS (vK a b kf)) g->R (.exit 0) L N):bK (.loop (pc 182 2)) R F H:=by
 refine b8 (FH a b) (af a+af b) ⟨0,0,[],.aA,0,aa,Y,Z,ab,ac,ad,cj _,cj _,.nil,rfl,aI⟩ ?_;rintro k M O ⟨i,j,m,v,g,rfl,p,q,y,r,s,hi,hj,G,a7,h⟩;have a6:=mM m;have T:∀f t,a[i]? =some t->m++t::vK (a.drop (i+1)) (b.drop j) kf=vK a b kf->rd 57 f=cY->(∀t,t<8->rd t f=rd t M)->bK (pc 182 0) (hD 1 (gy (qT (FH a b) ((af a-i)+(af b-j))) R)) f O:=by
  intro f t c ap C d;have a3:i<af a:=(jo.1 c).1;have g3:=(d 3 ai).trans p;have w:=(d 4 ai).trans q;have A:=(d 5 ai).trans y;have x:=(d 6 ai).trans r;have bp:=(d 7 ai).trans s;have E:=Cf c;simp(disch:=omega)only[go_sem,NI,C,g3,A,x,ny,cg,E];simp only[go_sem,gz];refine kM (new:=gz t) G rfl ai rfl ⟨aa,ai⟩ λK V z J a0 a1 a2=>?_
  simp(disch:=omega)only[go_sem,x,aK];refine⟨(af a-(i+1))+(af b-j),aa,i+1,j,m++[t],K,z,rfl,?_,?_,?_,?_,?_,aa,hj,?_,?_,?_⟩
  iterate 3 simp only[go_sem,g3,w]
  .simp only[go_sem];rfl
  .simp only[go_sem,bp]
  .rw[wW];simpa [dS]using J
  .grind
  .grind
 have U:∀f t,b[j]? =some t->m++t::vK (a.drop i) (b.drop (j+1)) kf=vK a b kf->rd 57 f=aR->(∀t,t<8->rd t f=rd t M)->bK (pc 182 0) (hD 1 (gy (qT (FH a b) ((af a-i)+(af b-j))) R)) f O:=by
  intro f t c ap C d;have a4:j<af b:=(jo.1 c).1;have g3:=(d 3 ai).trans p;have w:=(d 4 ai).trans q;have A:=(d 5 ai).trans y;have x:=(d 6 ai).trans r;have bp:=(d 7 ai).trans s;have E:=Cf c;simp(disch:=omega)only[go_sem,NI,C,w,A,bp,ny,cg,E];simp only[go_sem,gz];refine kM (new:=gz t) G rfl ai rfl ⟨aa,ai⟩ λK V z J a0 a1 a2=>?_
  simp(disch:=omega)only[go_sem,bp,aK];refine⟨(af a-i)+(af b-(j+1)),aa,i,j+1,m++[t],K,z,rfl,?_,?_,?_,?_,?_,hi,aa,?_,?_,?_⟩
  iterate 4 simp only[go_sem,g3,w,x]
  .simp only[go_sem];rfl
  .rw[wW];simpa [dS]using J
  .grind
  .grind
 rw[abA];by_cases h1:i<af a
 .obtain⟨t,c⟩:∃t,a[i]? =some t:=⟨a[i],c4 h1⟩;by_cases B:j<af b
  .obtain⟨u,o⟩:∃u,b[j]? =some u:=⟨b[j],c4 B⟩;have I:t∈a:=fL c;have S:u∈b:=fL o;have ho:=SS t.2 u.2 ((D t I).1.trans (Q u S).1.symm) (by rw[(D t I).1];exact hn) (D t I).2 (Q u S).2;have W:=ua c;have X:=ua o;simp(disch:=omega)only[go_sem,GP,p,q,r,s,dt,df,ny,cg,W,X];refine use ho ?_;rw[drop_cons c,drop_cons o,List.cons_merge_cons]at h;by_cases P:0<=ord t.2 u.2
   .rw[ay (show kf t u=true from b3 P),<-drop_cons o]at h;simp(disch:=omega)only[go_sem,df];refine T _ t c h ?_ (λt c=>?_)
    .simp only[go_sem]
    .simp(disch:=omega)only[cX]
   .rw[ao (show¬kf t u=true fromλe=>P (of_decide_eq_true e)),<-drop_cons c]at h;simp(disch:=omega)only[go_sem,dt];refine U _ u o h ?_ (λt c=>?_)
    .simp only[go_sem]
    .simp(disch:=omega)only[cX]
  .have a5:j=af b:=aa;rw[drop_cons c,mR (l:=b) aa,List.merge_right]at h;simp(disch:=omega)only[go_sem,GP,p,q,r,s,dt];refine T _ t c (by simp_all) ?_ (λt c=>?_)
   .simp only[go_sem]
   .simp(disch:=omega)only[cX]
 .by_cases B:j<af b
  .obtain⟨u,o⟩:∃u,b[j]? =some u:=⟨b[j],c4 B⟩;rw[drop_cons o,mR (l:=a) aa,List.nil_merge]at h;simp(disch:=omega)only[go_sem,GP,p,q,r,s,dt,df];refine U _ u o (by grind [mR,List.nil_merge]) ?_ (λt c=>?_)
   .simp only[go_sem]
   .simp(disch:=omega)only[cX]
  .rw[mR (l:=a) aa,mR (l:=b) aa,List.merge_right,hU]at h;simp(disch:=omega)only[go_sem,p,q,r,s,df];refine hR _ _ v g ?_ (by rw[<-h];exact G);simp only[go_sem,y]
theorem auG(l:aF)(n:Nat)(m:n<=1000000000)(a:j0 n l)(hl:af l<=100000000):bm 182 [bN l] (bN (ke l)):=by
 induction j:af l using j3 generalizing l with
 |ind k b=>
  subst j;refine gR (.f1 (uT _)) (bg an6 ?_);by_cases h:af l<2
  .simp(disch:=omega)only[go_sem,d182,NJ,dt];rw[Ke h];exact jy rfl (uT _)
  .have e:=b _ b4 (l.take (af l/2)) (a.take _) b4 rfl;have f:=b _ b4 (l.drop (af l/2)) (a.drop _) b4 rfl;have c:((af l:Nat):Int).tdiv 2=((af l/2:Nat):Int):=rfl;have u:af l/2<=af l:=js _ _;have i:(2:Int)≠0:=ai;have o:ga (gp .quo) [aj (af l:Nat),aj 2]=some (.val (aj (af l/2:Nat))):=by rw[j5 _ _ _ i,c,aK _ aa]
   have p:slice3 (kG 5) false true false [bN l,aj (af l/2:Nat)]=some (.val (bN (l.take (af l/2)))):=by grind [aur,cg]
   have q:slice3 (kG 5) true false false [bN l,aj (af l/2:Nat)]=some (.val (bN (l.drop (af l/2)))):=by grind [aus,cg]
   simp(disch:=omega)only[go_sem,d182,NJ,abF,df,o,p,q];refine use e ?_;simp only[go_sem];refine use f ?_;simp only[go_sem,abE,abD,abC];refine aqL (ke (l.take (af l/2))) (ke (l.drop (af l/2))) n m (a.take _).ke (a.drop _).ke (by grind [B6,e8,lB]) _ _ _ ?_ ?_ ?_ ?_ ?_ ?_
   iterate 5 simp only[go_sem]
   intro r s v g d t;rw[gb];simp only[go_sem,abB,d]
   grind [Kd,QY,uT]
theorem mU(q:Rat):V.agg (bk q)=bR q:=rfl
theorem oc(q:Rat):cW (bk q) 4=some (bk q):=rfl
theorem nB(q:Rat):bM (bR q)=true:=rfl
theorem nt(q:Rat):cellsOf (bR q)=bk q:=rfl
theorem nD(q:Rat):c_ (bk q)=4:=rfl
theorem oI(q:Rat):dI (bk q)=true:=rfl
theorem aqu(p q:Rat):dj (bk p) (bk q) 0=some (bk p):=rfl
def Vm(s:aF)(n q:Nat)(Z:n<=1000000000)(h:j0 n s)(E:∀t∈s,aM q t.1)(hl:af s<=100000000)(ae:(q+1)*(af s+1)<=29999999)(i b:Nat)(t:b9)(a:s[i]? =some t)(F:Fr)(H:ah)(R:b5)
 (N:rd 5 F=bN s) (O:rd 7 F=aj i) (P:rd 8 F=.ptr b 0) (Q:rd 9 F=aj (i+1:Nat)) (W:H.get b=an (bk t.1) 0)
 (J:∀(z:Fr) (l:ah) (k:Nat) (c:Rat),(∀t,t<9->rd t z=rd t F)->rd 9 z=aj k->i<k->k<=af s->fG t.1 t.2 (s.drop (i+1))=(c,s.drop k)->aM ((q+1)*(k-i)) c->l.get b=an (bk c) 0->(∀y,y≠b->l.get y=H.get y)->l.ag=H.ag->R (.exit 2) z l):
 bK (.loop (pc 116 2)) R F H:=by
 have hi:i<af s:=(jo.1 a).1;have w:t∈s:=fL a
 refine b8 (λm A o=>∃(k:Nat) (c:Rat),m=af s-k/\(∀t,t<9->rd t A=rd t F)/\rd 9 A=aj k/\i<k/\k<=af s/\fG c t.2 (s.drop k)=fG t.1 t.2 (s.drop (i+1))/\aM ((q+1)*(k-i)) c/\o.get b=an (bk c) 0/\(∀y,y≠b->o.get y=H.get y)/\o.ag=H.ag) (af s-(i+1))
  ⟨i+1,t.1,rfl,λ_ _=>rfl,Q,aa,aa,rfl,(E t w).mono (by rw[(aa:i+1-i=1)];omega),W,λ_ _=>rfl,rfl⟩ ?_
 rintro m A o ⟨k,c,rfl,f,d,K,L,p,v,r,D,C⟩;have B:=(f 5 ai).trans N;have V:=(f 7 ai).trans O;have G:=(f 8 ai).trans P;have T:=ua a;rw[YV];by_cases Y:k<af s
 .obtain⟨u,j⟩:∃u,s[k]? =some u:=⟨s[k],c4 Y⟩;have x:u∈s:=fL j;have ho:=SS t.2 u.2 ((h t w).1.trans (h u x).1.symm) (by rw[(h t w).1];exact Z) (h t w).2 (h u x).2;have U:=ua j;have S:=yp j;rw[drop_cons j]at p;simp(disch:=omega)only[go_sem,B,V,d,dt,ny,cg,T,U];refine use ho ?_;by_cases I:ord t.2 u.2=0
  .have g:fG (c+u.1) t.2 (s.drop (k+1))=fG t.1 t.2 (s.drop (i+1)):=by rw[<-p];exact(ay I).symm
   have ad:(q+1)*(k+1-i)=(q+1)*(k-i)+(q+1):=by rw[(aa:k+1-i=(k-i)+1),dL,eD]
   have ac:(q+1)*(k+1-i)<=(q+1)*(af s+1):=eN _ aa;have X:=yb c u.1 v (E u x) aa;simp(disch:=omega)only[go_sem,YR,dt,B,G,d,r,ny,cg,dG,S,oc,mU];refine use X ?_;simp(disch:=omega)only[go_sem,YQ,nB,nt,nD,oI,aqu,G,d,r,aK];refine⟨af s-(k+1),aa,k+1,c+u.1,rfl,λt a=>?_,?_,aa,aa,g,?_,?_,?_,?_⟩
   .simp(disch:=omega)only[cX];exact f t a
   .simp only[go_sem];rfl
   .exact(v.add (E u x)).mono aa
   .rw[ah.aT,ay rfl]
   .intro y M;rw[ah.aT,ao (λe=>M e.symm)];exact D y M
   .exact C
  .have g:fG t.1 t.2 (s.drop (i+1))=(c,s.drop k):=by rw[<-p,drop_cons j];exact ao I
   simp(disch:=omega)only[go_sem,df];refine J _ _ k c (λt a=>?_) ?_ K L g v r D C
   .simp(disch:=omega)only[cX];exact f t a
   .simp only[go_sem,d]
 .have g:fG t.1 t.2 (s.drop (i+1))=(c,s.drop k):=by rw[<-p,mR aa];rfl
  simp(disch:=omega)only[go_sem,B,d,df];refine J _ _ k c (λt a=>?_) ?_ K L g v r D C
  .simp(disch:=omega)only[cX];exact f t a
  .simp only[go_sem,d]
def fZ(n:Nat)(l:aF):au:=[aj n,bN l]
def d_(n:Nat)(l:aF):V:=.agg (fZ n l)
def kA(n:Nat)(l:aF):bA (d_ n l):=.agg (.f2 .ii (uT _))
def Vg(s:aF)(a:Nat)(k:Nat)(F:Fr)(H:ah):Prop:=∃(i:Nat) (m:aF) (v:V) (g:Nat),k=af s-i/\rd 4 F=.ptr 5 0/\rd 5 F=bN s/\rd 6 F=.ptr 6 0/\rd 7 F=aj i/\i<=af s/\H.get 5=an [aj 0,.aA] 0/\H.get 6=an [aj a,v] 0/\bn H 5 v (dS m) g/\7<=H.ag/\af m<=i/\m++bV (s.drop i)=bV s
def ave(s:aF)(n q x:Nat)(hn:n<=1000000000)(he:j0 n s)(hq:∀t∈s,aM q t.1)(hl:af s<=100000000)(a8:(q+1)*(af s+1)<=29999999)(F:Fr)(H:ah)(R:b5)
 (T:rd 4 F=.ptr 5 0) (U:rd 5 F=bN s) (W:rd 6 F=.ptr 6 0) (X:rd 7 F=aj 0) (h5:H.get 5=an [aj 0,.aA] 0) (h6:H.get 6=an [aj x,.aA] 0) (h7:7<=H.ag)
 (hR:∀z j v g,rd 4 z=.ptr 5 0->rd 6 z=.ptr 6 0->j.get 5=an [aj 0,.aA] 0->j.get 6=an [aj x,v] 0->bn j 5 v (dS (bV s)) g->R (.exit 0) z j):
 bK (.loop (pc 116 8)) R F H:=by
 refine b8 (Vg s x) (af s) ⟨0,[],.aA,0,rfl,T,U,W,X,cj _,h5,h6,.nil,h7,aJ _,aI⟩ ?_;rintro k bb e ⟨i,m,v,g,rfl,E,l,G,o,hi,I,J,L,bo,bi,a⟩;rw[Y0];by_cases a5:i<af s
 .obtain⟨t,h⟩:∃t,s[i]? =some t:=⟨s[i],c4 a5⟩;have bv:t∈s:=fL h;have Y:=yp h;have Z:=ua h;have hz:dj (bk t.1) [V.bool false,.aA,aR,.aA] 0=some (bk t.1):=rfl;simp(disch:=omega)only[go_sem,YZ,YY,YX,nB,nt,nD,oI,hz,l,o,dt,ny,cg,dG,Y,mU,aK];refine Vm s n q hn he hq hl a8 i e.ag t h _ _ _ ?_ ?_ ?_ ?_ ?_ ?_
  iterate 3 simp only[go_sem,l,o]
  .simp only[go_sem];rfl
  .rw[ah.aT,ay rfl]
  intro d f k c b pJ bd M ar bs K am al;have N:rd 4 d=.ptr 5 0:=by rw[b 4 ai];simp only[go_sem,E]
  have C:rd 5 d=bN s:=by rw[b 5 ai];simp only[go_sem,l]
  have u:rd 6 d=.ptr 6 0:=by rw[b 6 ai];simp only[go_sem,G]
  have eB:rd 7 d=aj i:=by rw[b 7 ai];simp only[go_sem,o]
  have lH:rd 8 d=.ptr e.ag 0:=by rw[b 8 ai];simp only[go_sem]
  clear b;have A:∀y,y<e.ag->f.get y=e.get y:=by intro y hy;rw[am y aa,ah.aT,ao aa,ah.bl,ao aa]
  have bj:f.ag=e.ag+1:=al;have D:f.get 5=an [aj 0,.aA] 0:=(A 5 aa).trans I;have w:f.get 6=an [aj x,v] 0:=(A 6 aa).trans J;have r:bn f 5 v (dS m) g:=L.low A aa;have be:=mM m;have a4:bV (s.drop i)=if c.num≠0 then(c,t.2)::bV (s.drop k)else bV (s.drop k):=by rw[drop_cons h,xT,ar]
  rw[a4]at a;rw[gb];simp only[go_sem,YW,lH,K,oc,mU];refine use (TD c) ?_;by_cases p:c.num=0
  .have B:(if c.num<0 then(-1:Int)else if c.num=0 then 0 else 1)=0:=by rw[ao aa,ay p]
   rw[ao (by simpa using p)]at a;simp(disch:=omega)only[go_sem,Nf,B,decide_true,pJ];refine⟨af s-k,aa,k,m,v,g,rfl,?_,?_,?_,?_,M,D,w,r,aa,aa,a⟩
   iterate 4 simp only[go_sem,N,C,u]
  .have B:decide ((if c.num<0 then(-1:Int)else if c.num=0 then 0 else 1)=0)=false:=by refine bP ?_;rw[ao p];split<;>decide
   rw[ay p]at a;have aw:dj (bk c) [V.bool false,.aA,aR,.aA,.aA] 0=some (bk c++[.aA]):=rfl;have a0:dj [bf t.2] (bk c++[V.aA]) 4=some (bk c++[bf t.2]):=rfl;have a1:oV (bk c++[bf t.2]) [V.bool false,.aA,aR,.aA,.aA]=some (gz (c,t.2)):=rfl;have a2:c_ (bk c++[bf t.2])=5:=rfl;simp(disch:=omega)only[go_sem,nB,nt,nD,aw,a0,a1,a2,B,C,u,eB,lH,K,w,oc,mU,ny,cg,Z];refine kM (bytes:=88) (new:=gz (c,t.2)) r rfl ai rfl ⟨aa,ai⟩ λv2 H3 g2 O b1 P b2=>?_
   obtain⟨S,n2,rfl⟩:=O.slice aa;have ba:=(P 5 aa (r.ne D)).trans D;have Q:=(P 6 aa (r.ne w)).trans w;simp(disch:=omega)only[go_sem,Nf,u,pJ,Q];refine⟨af s-k,aa,k,m++[(c,t.2)],.slice S 0 n2 (.grown 5),g2,rfl,?_,?_,?_,?_,M,?_,?_,?_,?_,?_,?_⟩
   iterate 4 simp only[go_sem,N,C,u]
   .rw[ah.aT,ao ai];exact ba
   .rw[ah.aT,ay rfl]
   .refine bn.set ?_ Q _;rw[wW];simpa [dS]using O
   .rw[kQ];omega
   .rw[bw,iA];omega
   .rw[gX];exact a
 .rw[mR aa,xU,hU]at a;simp(disch:=omega)only[go_sem,l,o,df];refine hR _ _ v g ?_ ?_ I J (by rw[<-a];exact L)
  iterate 2 simp only[go_sem,E,G]
def akD{v:V}(h:bn b 5 v (dS k) a):∃u,bS b (ah.zero b.ag) (.agg [aj d,v]) u/\bA u/\u=d_ d k:=⟨_,.agg (.f2 .mm (QY h)),kA _ _,rfl⟩
def z1(l:aF)(n q b:Nat)(e:n<=1000000000)(d:j0 n l)(m:∀t∈l,aM q t.1)(hl:af l<=100000000)(o:(q+1)*(af l+1)<=29999999):bm 116 [aj b,bN l] (d_ b (f_ l)):=by
 refine gR (.f2 .ii (uT _)) (bg anw ?_);simp only[go_sem,d116,YU];refine use (auG l n e d hl) ?_;simp only[go_sem,YT,YS];refine ave (ke l) n q b e d.ke (λt p=>m t ((wV l).mem_iff.1 p)) (by rw[B6];exact hl) (by rw[B6];exact o) _ _ _ ?_ ?_ ?_ ?_ ?_ ?_ ?_ ?_
 iterate 6 simp only[go_sem]
 .exact aJ 7
 intro r s v g h i c j a;have w:bM v=true:=by generalize dS (bV (ke l))=f at a;cases a<;>rfl
 have u:cellsOf v=[v]:=by generalize dS (bV (ke l))=f at a;cases a<;>rfl
 have k:V.one v=true:=by generalize dS (bV (ke l))=f at a;cases a<;>rfl
 rw[gb];simp only[go_sem,Y1,h,i,c,j,k];exact akD (a.set c _)
def oz(l:List Int):V:=.row (af l) (l.map λz=>V.int .i64 z)
def dN(l:List Int)(i:Nat):au:=[oz l,aj i]
def kY(l:List Int):Prop:=∀z∈l,-9223372036854775808<=z/\z<9223372036854775808
def Qu(l:List Int):bA (oz l):=.row _ (ct.iff.2 λv h=>by simp only[g8]at h;obtain⟨d,_,rfl⟩:=h;exact .int _ _)
theorem DF(l:List Int)(i:Nat):ct (dN l i):=.f2 (Qu l) .ii
@[go_sem]theorem az9(l:List Int):di (oz l)=some (.val (aj (af l))):=rfl
variable{R:List Int}
def al8(h:0<=q/\q<af R):dO none 1 [oz R,.int p q]=some (.val (.dY (R.map λz=>V.int .i64 z) q.toNat)):=by rw[oz,nx h,eD]
def ap5(h:a<af R):dw (R.map λz=>V.int .i64 z) a=some (aj (R.getD a 0)):=by rw[iu];simp[h]
def p9(l:List Int)(f:Nat)(args:au)(R:V->Prop):Prop:=∀(H:ah) (b i:Nat),5<=b->i<=af l->H.get b=an (dN l i) 0->
 dm f (.ptr b 0::args) H λv c=>R v/\∃a,a<=af l/\c=H.set b (an (dN l a) 0)
theorem tZ{args:au}{e:V->Prop}(g:ct args)
 (h:∀i,i<=af R->dm a (.ptr 5 0::args) (ah.one 5 6 (dN R i)) λl d=>∃c v,c<=af R/\d.get 5=an (dN R c) 0/\bS d (ah.one 5 d.ag (dN R c)) l v/\bA v/\e v):p9 R a args e:=by
 intro H b i j hi k;refine(ME (R:=λv f=>e v/\∃c,c<=af R/\f=dN R c) k (DF R i) j ⟨0,aI⟩ (args2:=.ptr 5 0::args) (.cons ?_ (k7.free g)) ?_).mono ?_
 .have:=iE.ptr (E:=qd 5 b) (k:=5+1) (b:=5) 0 ai;rwa[show qd 5 b 5=b from ay rfl]at this
 .refine(h i hi).mono ?_
  grind [DF]
 grind
variable{x:cq}{s:cm}
def jj{args:au}{f:V->Prop}(h:p9 R a args f)(k:5<=d)(hi:m<=af R)(l:b.get d=an (dN R m) 0)
 (n:∀v c,f v->c<=af R->s (put j x v) (b.set d (an (dN R c) 0))):qH e9 5 x s j b (some (.fn a,.ptr d 0::args)):=
 (h b d m k hi l).mono λv o ⟨g,c,i,e⟩=>by rw[e];exact n v c g i
def q7(n:Nat)(a:au):(ah.one 5 n a).get 5=an a 0:=by rw[ah.mW,ay rfl]
theorem fX(n:Nat)(a:au):(ah.one 5 n a).ag=n:=rfl
def avu(v n:Int)(a:0<n):(v.tmod n+n).tmod n=v%n:=by
 have b: -n<v.tmod n:=by have:=Int.lt_tmod_of_pos v a;omega
 rw[Int.tmod_eq_emod_of_nonneg aa,Int.add_emod_right,Int.tmod_eq_emod];split
 .simp
 .rw[(aa:((n.natAbs:Nat):Int)=n),Int.sub_emod_right,Int.emod_emod]
theorem oX(l:List Int)(hl:af l<=400)(m:kY l)(n:Nat)(e:0<n/\n<=1048576):p9 l 11 [aj n] λv=>∃k:Nat,k<n/\v=aj k:=by
 refine tZ (.f1 .ii) λi hi=>bg sx ?_
 by_cases h:i<af l
 .have o:=m (l.getD i 0) (by grind)
  obtain⟨z,c⟩:∃z,z=l.getD i 0:=⟨_,rfl⟩;rw[<-c]at o;have d:dw (l.map λz=>V.int .i64 z) i=some (aj z):=by rw[c];exact ap5 h
  have f:((n:Nat):Int)≠0:=aa;have g:=Int.lt_tmod_of_pos z (aa:(0:Int)<n);have j:=Int.tmod_lt_of_pos z (aa:(0:Int)<n);have a:=avu z n aa;have p:=Int.emod_nonneg z f;have q:=Int.emod_lt_of_pos z (aa:(0:Int)<n);obtain⟨x,b⟩:∃x,x=z.tmod n:=⟨_,rfl⟩;rw[<-b]at g j a;simp(disch:=omega)only[go_sem,d11,Ng,Za,Y_,Y9,dN,q7,dt,eW,al8,cg,d,aK,nY,<-b];refine⟨i+1,_,aa,?_,.same _,.int _ _,(z%n).toNat,aa,?_⟩
  .rfl
  .rw[a];congr 1;omega
 .simp(disch:=omega)only[go_sem,d11,Ng,dN,q7,df,eW];exact⟨i,_,hi,rfl,.same _,.int _ _,0,e.1,rfl⟩
def TX(n d:Int)(e:n.natAbs<=9)(c:0<d/\d<=4):aM 4 (oE n d):=by obtain⟨k,rfl⟩:∃k:Nat,d=k:=⟨d.natAbs,aa⟩;rw[Rat.divInt_ofNat];obtain⟨a,b⟩:=mk_le n (m:=k) aa;exact⟨aa,aa⟩
def wT(h:a<1024):eY a:=eY.of (k:=10) aa ai
def Ve(k:Nat)(v:V):Prop:=∃q:Rat,aM k q/\v=bR q
theorem l6(q:Rat):dj (bk q) [V.bool false,.aA,aR,.aA] 0=some (bk q):=rfl
def SE(l:List Int)(hl:af l<=400)(a:kY l):p9 l 42 [] (Ve 4):=by
 refine tZ .nil λi hi=>bg apa ?_
 simp only[go_sem,d42,agW];refine jj (oX l hl a 19 ai) ai hi ?_ ?_
 .simp only[go_sem,q7,fX]
 rintro _ j ⟨e,g,rfl⟩ b;simp(disch:=omega)only[go_sem,agV,aK];refine use (tG _ aa) ?_;simp only[go_sem];refine jj (oX l hl a 4 ai) ai b ?_ ?_
 .simp only[go_sem]
 rintro _ d ⟨f,h,rfl⟩ c;simp(disch:=omega)only[go_sem,aK];refine use (tG _ aa) ?_;simp only[go_sem];refine use (zi ((e:Int)-9) (1+(f:Int)) aa (wT aa) (wT aa)) ?_;simp only[go_sem,fX,nB,nt,nD,oI,l6,dQ,oc,mU];refine⟨d,_,c,?_,.same _,ij _,_,TX _ _ aa aa,rfl⟩;simp only[go_sem]
theorem asp(l:List Int)(hl:af l<=400)(e:kY l):p9 l 53 [] (λv=>∃q:Rat,aM 4 q/\0<q.num/\v=bR q):=by
 refine tZ .nil λi hi=>bg apg ?_
 simp only[go_sem,d53,ahl];refine jj (oX l hl e 9 ai) ai hi ?_ ?_
 .simp only[go_sem,q7,fX]
 rintro _ p ⟨a,n,rfl⟩ g;simp(disch:=omega)only[go_sem,aK];refine use (tG _ aa) ?_;simp only[go_sem];refine jj (oX l hl e 4 ai) ai g ?_ ?_
 .simp only[go_sem]
 rintro _ m ⟨d,o,rfl⟩ h;simp(disch:=omega)only[go_sem,aK];refine use (tG _ aa) ?_;simp only[go_sem];refine use (zi (1+(a:Int)) (1+(d:Int)) aa (wT aa) (wT aa)) ?_;simp only[go_sem,fX,nB,nt,nD,oI,l6,dQ,oc,mU];refine⟨m,_,h,?_,.same _,ij _,_,TX _ _ aa aa,?_,rfl⟩
 .simp only[go_sem]
 .obtain⟨k,j⟩:∃k:Nat,1+(d:Int)=k:=⟨1+d,aa⟩;rw[j,Rat.divInt_ofNat,zD _ aa];have b:0<c9 (1+(a:Int)).natAbs k:=Nat.gcd_pos_of_pos_right _ aa;have c:c9 (1+(a:Int)).natAbs k<=(1+(a:Int)).natAbs:=Nat.gcd_le_left _ aa;have f:(1+(a:Int))=(((1+a:Nat)):Int):=aa;rw[f]at c b⊢;rw[eU]at c b⊢;have:0<(1+a)/c9 (1+a) k:=Nat.div_pos c b
  grind
def US(l:List Int)(hl:af l<=400)(b:kY l)(k:Nat)(f:k<=100):p9 l 52 [aj k] (λv=>∃z:Int,-(k:Int)<=z/\z<=k/\v=bR (z:Rat)):=by
 refine tZ (.f1 .ii) λi hi=>bg apf ?_
 have e:(2:Int)*(k:Int)+1=((2*k+1:Nat):Int):=aa;simp(disch:=omega)only[go_sem,d52,ahk,aK,e];refine jj (oX l hl b (2*k+1) ⟨aa,aa⟩) ai hi ?_ ?_
 .simp only[go_sem,q7,fX]
 rintro _ c ⟨d,g,rfl⟩ a;simp(disch:=omega)only[go_sem,aK];refine use (BK _ aa) ?_;simp only[go_sem,fX,nB,nt,nD,oI,l6,dQ,oc,mU];refine⟨c,_,a,?_,.same _,ij _,(d:Int)-k,aa,aa,rfl⟩;simp only[go_sem]
def ef:kW:=Gs 5 nN qU sB 300
def eg:qG e9 5 ef:=MD hT b_ SB fI 300
def D5(l:List av):au:=l.map bf
def wu(l:List av):V:=.row (af l) (D5 l)
def kD:Nat->List av
 |1=>[[0],[1],[2]]
 |_=>[[0,0],[0,1],[1,0],[0,2],[1,1],[2,0]]
def ap':ec 5 ef 153 [aj 1,aj 2] (wu (kD 1))=true:=ep
def aqa:ec 5 ef 153 [aj 2,aj 2] (wu (kD 2))=true:=ep
def aqb(n:Nat)(h:n=1\/n=2):bm 153 [aj n,aj 2] (wu (kD n)):=by
 rcases h with rfl|rfl
 .exact eo eg ap'
 .exact eo eg aqa
@[go_sem]theorem azW(l:List av):di (wu l)=some (.val (aj (af l))):=rfl
def al6{l:List av}(h:0<=q/\q<af l):dO none 1 [wu l,.int p q]=some (.val (.dY (D5 l) q.toNat)):=by rw[wu,nx h,eD]
def ap4{l:List av}(h:l[a]? =some g):dw (D5 l) a=some (bf g):=by rw[iu,D5,hY,h];rfl
theorem tP(b:a=1\/a=2):∀e∈kD a,af e=a/\e.sum<=2:=by rcases b with rfl|rfl<;>decide
def aqV(b:a=1\/a=2):0<af (kD a)/\af (kD a)<=6:=by rcases b with rfl|rfl<;>decide
def uw(n k:Nat)(p:aF):Prop:=Canon p/\(∀t∈p,t.2∈kD n/\aM (5*k) t.1)/\af p<=k/\∀t∈p,bF 360360 (5405400*k) t.1
def pz(H:ah):Prop:=∀y,y<5->H.get y=.none
def FJ(M:List av)(l:List Int)(n a:Nat)(j:Nat)(F:Fr)(H:ah):Prop:=∃(i:Nat) (m:aF) (v:V) (g:Nat),i<=af l/\rd 0 F=.ptr 5 0/\rd 1 F=aj n/\rd 8 F=.ptr 6 0/\rd 9 F=wu M/\rd 10 F=v/\rd 11 F=aj j/\
 H.get 5=an (dN l i) 0/\H.get 6=an [aj 0,.aA] 0/\pz H/\bn H 5 v (dS m) g/\af m+j<=a/\(∀t∈m,t.2∈kD n/\aM 4 t.1)/\7<=H.ag
def pz.keep{H':ah}(h:pz b)(c:∀y,y<5->H'.get y=b.get y):pz H':=λy a=>(c y a).trans (h y a)
def pz.set(h:pz b)(c:5<=a)(o:dU):pz (b.set a o):=h.keep λy d=>by rw[ah.aT,ao aa]
def aqr(n:Nat)(a:au):pz (ah.one 5 n a):=λy b=>by rw[ah.mW,ao aa]
def pz.push(h:pz b)(a:5<=b.ag)(o:dU):pz (b.push o):=h.keep λy c=>by rw[ah.bl,ao aa]
def aso(M:List av)(W:0<M.length/\M.length<=6)(hs:∀e∈M,e∈kD a)(l:List Int)(hl:af l<=400)(O:kY l)(r:Nat)(L:r<=10)(F:Fr)(H:ah)(R:b5)(j:Nat)(U:FJ M l a r j F H)
 (X:∀B C,FJ M l a r 0 B C->R (.exit 0) B C):bK (.loop (pc 98 2)) R F H:=by
 refine b8 (FJ M l a r) j U ?_;rintro j a9 s ⟨i,m,v,g,hi,d,D,G,u,E,n,w,I,A,x,hm,K,a0⟩;rw[aiA];cases j with
 |zero=>
  simp(disch:=omega)only[go_sem,n,kh,df];refine X _ _ ⟨i,m,v,g,hi,?_,?_,?_,?_,?_,?_,w,I,A,x,hm,K,a0⟩
  iterate 6 simp only[go_sem,d,D,G,u,E,n]
 |succ j=>
  obtain⟨aw,ba⟩:=W;simp(disch:=omega)only[go_sem,aiz,d,E,n,dt];refine jj (SE l hl O) ai hi w ?_;rintro _ o ⟨q,hq,rfl⟩ ae;simp(disch:=omega)only[go_sem,d,u];refine jj (oX l hl O M.length ⟨aw,aa⟩) ai ae ?_ ?_
  .simp only[go_sem]
  rintro _ c ⟨k,hk,rfl⟩ al;obtain⟨e,J⟩:∃e,M[k]? =some e:=⟨M[k],c4 hk⟩;have ad:e∈kD a:=hs e (fL J);have ap:=ap4 J;have Y:dj (bk q) [V.bool false,.aA,aR,.aA,.aA] 0=some (bk q++[.aA]):=rfl;have Z:dj [bf e] (bk q++[V.aA]) 4=some (gz (q,e)):=rfl;have ab:oV (gz (q,e)) [V.bool false,.aA,aR,.aA,.aA]=some (gz (q,e)):=rfl;have ac:c_ (gz (q,e))=5:=rfl;have a':=mM m;simp(disch:=omega)only[go_sem,nB,nt,nD,Y,Z,ab,ac,al6,cg,ap];have z:bn ((s.set 5 (an (dN l o) 0)).set 5 (an (dN l c) 0)) 5 v (dS m) g:=(x.set w _).set (cs:=dN l o) jE _;refine kM (bytes:=88) (new:=gz (q,e)) z rfl ai rfl ⟨aa,ai⟩ λv2 S T q1 a4 p a5=>?_
  have P:((s.set 5 (an (dN l o) 0)).set 5 (an (dN l c) 0)).get 5=an (dN l c) 0:=jE;have Q:((s.set 5 (an (dN l o) 0)).set 5 (an (dN l c) 0)).get 6=an [aj 0,.aA] 0:=by rw[ah.aT,ao ai,ah.aT,ao ai];exact I
  simp only[kQ]at a4 p a5;have a6:=(p 5 aa (z.ne P)).trans P;have a7:=(p 6 aa (z.ne Q)).trans Q;have rl:pz S:=by intro y N;rw[p y aa (x.xO λb f e=>by rw[A y N]at e;cases e),ah.aT,ao aa,ah.aT,ao aa];exact A y N
  simp(disch:=omega)only[go_sem,aiy,n,aK];refine⟨j,nO j,c,m++[(q,e)],v2,T,al,?_,?_,?_,?_,?_,?_,a6,a7,rl,?_,?_,?_,aa⟩
  iterate 5 simp only[go_sem,d,D,G,u]
  .simp only[go_sem];congr 1;omega
  .rw[wW];simpa [dS]using q1
  .rw[bw,iA];omega
  .intro t L;rcases ki.1 L with h|h
   .exact K t h
   .rw[fj.1 h];exact⟨ad,hq⟩
def aqq{a:au}(h:pz b)(i:b.get 5=an a 0)(j:b.get 6=an c 0):∀y d g,y<7->b.get y=an d g->g=0:=by
 intro y d g k e;by_cases f:y<5
 .rw[h y f]at e;cases e
 .rcases(aa:y=5\/y=6)with rfl|rfl
  .rw[i]at e;cases e;rfl
  .rw[j]at e;cases e;rfl
def ajR(c:a=1\/a=2)(h:∀t∈k,t.2∈kD a):j0 a k:=λt d=>by obtain⟨b,e⟩:=tP c t.2 (h t d);exact⟨b,aa⟩
def asn(M:List av)(F:0<M.length/\M.length<=6)(d:Int)(l:List Int)(hl:af l<=400)(s:kY l)(n b:Nat)(K:n=1\/n=2)(L:∀e∈M,e∈kD n)(E:bm 153 [aj n,aj d] (wu M))(a:0<b/\b<=10):p9 l 98 [aj n,aj d,aj b] λv=>∃p,uw n b p/\v=d_ n p:=by
 refine tZ (.f3 .ii .ii .ii) λi hi=>C4 hT b_ fI RN.1 RN.2 (by kernel_rfl) 4 39 rfl rfl ?_
 have A:((b:Int)+1)=((b+1:Nat):Int):=aa;simp only[go_sem,d98,aiE,aiD,aiC,aS.cutAt];refine use E ?_;simp(disch:=omega)only[go_sem,aK,A];refine jj (oX l hl s (b+1) ⟨aa,aa⟩) ai hi ?_ ?_
 .simp only[go_sem,q7,fX]
 rintro _ P ⟨k,W,rfl⟩ H;simp only[go_sem];refine aso M F L l hl s b a.2 _ _ _ k ⟨P,[],.aA,0,H,?_,?_,?_,?_,?_,?_,?_,?_,?_,.nil,by simp;omega,(λt h=>by cases h),?_⟩ ?_
 iterate 8 simp only[go_sem,fX]
 .exact pz.set ((aqr _ _).push (by rw[fX];decide) _) ai _
 .exact aJ 7
 rintro c j ⟨w,m,v,g,I,T,B,D,V,C,U,o,q,J,G,X,f,Y⟩;have r:=aqq J o q;rw[gb];simp only[go_sem];refine Ft (j.low 7) (λt=>if t=10 then bN m else if t=1\/t=8 then rd t c else .any) (C_ (by rw[fX];decide) r) (λt a=>?_) ?_
 .show bS _ _ _ (if t=10 then _ else _);by_cases h:t=10
  .subst h;rw[ay rfl,C];exact G.A3 ai r (mM m)
  .rw[ao h];split
   .exact .same _
   .exact .any _
 have x:rd 1 (mI (λt=>if t=10 then bN m else if t=1\/t=8 then rd t c else .any) 39)=aj n:=by rw[qu _ ai];exact B
 have z:rd 8 (mI (λt=>if t=10 then bN m else if t=1\/t=8 then rd t c else .any) 39)=.ptr 6 0:=by rw[qu _ ai];exact D
 have y:rd 10 (mI (λt=>if t=10 then bN m else if t=1\/t=8 then rd t c else .any) 39)=bN m:=by rw[qu _ ai];rfl
 generalize mI (λt=>if t=10 then bN m else if t=1\/t=8 then rd t c else .any) 39=S at x z y
 have Q:(j.low 7).get 5=an (dN l w) 0:=by rw[ah.kN,ay ai];exact o
 have R:(j.low 7).get 6=an [aj 0,.aA] 0:=by rw[ah.kN,ay ai];exact q
 have N:=z1 m n 4 n aa (ajR K λt a=>(f t a).1) (λt a=>(f t a).2) aa (by have:=eN (4+1) (aa:af m+1<=11);omega)
 simp only[go_sem,aiB,x,y];refine use N ?_;simp only[go_sem,d_,fZ,z,R];refine⟨w,_,I,?_,.same _,kA _ _,f_ m,⟨asy m,λt a=>?_,?_,S6 (λt a=>Ta (f t a).2) aa⟩,rfl⟩
 .simp only[go_sem,Q]
 .obtain⟨u,O,e⟩:=EB a;refine⟨by rw[e];exact(f u O).1,?_⟩;refine(JE (k:=4) (λt a=>(f t a).2) t a).mono ?_;have:=eN (4+1) (aa:af m<=b);omega
 .have:=BG m;omega
def Jv(l:List Int)(hl:af l<=400)(d:kY l)(n a:Nat)(b:n=1\/n=2)(c:0<a/\a<=10):p9 l 98 [aj n,aj 2,aj a] λv=>∃p,uw n a p/\v=d_ n p:=asn (kD n) (aqV b) 2 l hl d n a b (λ_ h=>h) (aqb n b) c
def tR(n:Nat)(p:aF):au:=[aj n,bN p]
def jh(n:Nat):List aF->au
 |[]=>[]
 |p::l=>tR n p++jh n l
def mh(n:Nat)(l:List aF):V:=.row (af l) (jh n l)
def Ey(n:Nat):∀l,af (jh n l)=af l*2
 |[]=>rfl
 |p::l=>by simp only[jh,bw,Ey n l,dZ];have:af (tR n p)=2:=rfl;omega
def Ju(n:Nat):∀(l m:List aF),jh n (l++m)=jh n l++jh n m
 |[],_=>rfl
 |t::l,m=>by simp only[gv,jh,Ju n l m,gX]
def Qm(n:Nat):∀l,ct (jh n l)
 |[]=>.nil
 |p::l=>l5 (.f2 .ii (uT _)) (Qm n l)
def Ie(n:Nat)(l:List aF):bA (mh n l):=.row _ (Qm n l)
end Go.Proofs.YtddhncjmaahodaaGreatDoor
namespace Go.ax
variable{b:ah}{a:Nat}{c:au}{d:Nat}
def bn.bM{v:V}(h:bn b a v c d):bM v=true/\cellsOf v=[v]/\V.one v=true:=by cases h<;>exact⟨rfl,rfl,rfl⟩
end Go.ax
namespace Go.Proofs.YtddhncjmaahodaaGreatDoor
open Go.ax Go.aD
def KY(l:List Int)(n:Nat)(g:aF)(d c:List aF)(f e:V)(b a:Nat)(H:ah):Prop:=∃i,i<=af l/\H.get 5=an (dN l i) 0/\H.get 6=an [aj 0,aj 0,.aA,.aA,.aA] 0/\H.get 7=an [aj n,aj n,bN g,f,e] 0/\
 bn H 2 f (jh n d) b/\bn H 2 e (jh n c) a/\(a=0\/a≠b)/\8<=H.ag/\b<H.ag/\(∀p∈d,uw n 2 p)/\(∀p∈c,uw n 2 p)
def KX(n:Nat)(F:Fr):Prop:=rd 0 F=.ptr 5 0/\rd 1 F=aj n/\rd 2 F=aj 2/\rd 6 F=.ptr 6 0/\rd 7 F=.ptr 7 0
def FK(l:List Int)(n:Nat)(c:aF)(j:Nat)(F:Fr)(H:ah):Prop:=∃a d b,KX n F/\rd 8 F=aj j/\af a+j<=2/\KY l n c a [] d .aA b 0 H
def FL(l:List Int)(n:Nat)(e:aF)(d:List aF)(g:V)(c:Nat)(j:Nat)(F:Fr)(H:ah):Prop:=∃a f b,KX n F/\rd 9 F=aj j/\af a+j<=1/\KY l n e d a g f c b H
theorem asu(l:List Int)(hl:af l<=400)(V:kY l)(n:Nat)(S:n=1\/n=2)(g:aF)(F:Fr)(H:ah)(R:b5)(j:Nat)(K:FK l n g j F H)
 (L:∀u v,FK l n g 0 u v->R (.exit 0) u v):bK (.loop (pc 47 2)) R F H:=by
 refine b8 (FK l n g) j K ?_;rintro j Z c ⟨b,t,C,⟨m,o,q,z,d⟩,e,Q,i,hi,r,B,bp,s,M,T,U,N,P,D⟩;rw[agZ];cases j with
 |zero=>
  simp(disch:=omega)only[go_sem,e,kh,df];refine L _ _ ⟨b,t,C,⟨?_,?_,?_,?_,?_⟩,?_,Q,i,hi,r,B,bp,s,M,T,U,N,P,D⟩
  iterate 6 simp only[go_sem,m,o,q,z,d,e]
 |succ j=>
  obtain⟨k1,k2,bX⟩:=s.bM;have ab:=Ey n b;simp(disch:=omega)only[go_sem,agY,m,o,q,d,e,bp,dt];refine jj (Jv l hl V n 2 S ai) ai hi r ?_;rintro _ a ⟨p,hp,rfl⟩ O;have ad:d_ n p=.agg (tR n p):=rfl;simp(disch:=omega)only[go_sem,d_,fZ,bp,true_and];have f:bn (c.set 5 (an (dN l a) 0)) 2 t (jh n b) C:=s.set r _;refine kM (bytes:=32) (new:=tR n p) f rfl ai rfl ⟨aa,ai⟩ λv2 I A h X k Y=>?_
  obtain⟨J,W,rfl⟩:=h.slice aa;have w:(c.set 5 (an (dN l a) 0)).get 5=an (dN l a) 0:=jE;have x:(c.set 5 (an (dN l a) 0)).get 6=an [aj 0,aj 0,.aA,.aA,.aA] 0:=by rw[ah.aT,ao ai];exact B
  have y:(c.set 5 (an (dN l a) 0)).get 7=an [aj n,aj n,bN g,t,.aA] 0:=by rw[ah.aT,ao ai];exact bp
  simp only[kQ]at X k Y;have am:=(k 5 aa (f.ne w)).trans w;have ap:=(k 6 aa (f.ne x)).trans x;have G:=(k 7 aa (f.ne y)).trans y;have E:A<I.ag:=by
   generalize jh n b++tR n p=xs at h
   cases h with
   |cells _ _ _ _ _ E _=>exact E
  simp(disch:=omega)only[go_sem,agX,d,e,G,aK];refine⟨j,nO j,b++[p],.slice J 0 W (.grown 2),A,⟨?_,?_,?_,?_,?_⟩,?_,?_,a,O,?_,?_,?_,?_,.nil,.inl rfl,?_,?_,?_,D⟩
  iterate 5 simp only[go_sem,m,o,q,z,d]
  .simp only[go_sem];congr 1;omega
  .grind
  .simp_all [ah.aT,ao]
  .simp_all [ah.aT,ao]
  .rw[ah.aT,ay rfl]
  .refine bn.set ?_ G _;rw[Ju];simpa [jh]using h
  .rw[kQ];omega
  .grind [kQ]
  grind
theorem asv(l:List Int)(hl:af l<=400)(hz:kY l)(n:Nat)(Z:n=1\/n=2)(q:aF)(f:List aF)(b:V)(d:Nat)(F:Fr)(H:ah)(R:b5)(j:Nat)(P:FL l n q f b d j F H)
 (Q:∀w x,FL l n q f b d 0 w x->R (.exit 2) w x):bK (.loop (pc 47 5)) R F H:=by
 refine b8 (FL l n q f b d) j P ?_;rintro j al c ⟨h,v,D,⟨r,s,t,B,k⟩,m,Y,i,hi,o,C,bp,G,E,J,ab,W,I,S⟩;rw[ag2];cases j with
 |zero=>
  simp(disch:=omega)only[go_sem,m,kh,df];refine Q _ _ ⟨h,v,D,⟨?_,?_,?_,?_,?_⟩,?_,Y,i,hi,o,C,bp,G,E,J,ab,W,I,S⟩
  iterate 6 simp only[go_sem,r,s,t,B,k,m]
 |succ j=>
  have am:=Ey n h;simp(disch:=omega)only[go_sem,ag1,r,s,t,k,m,bp,dt];refine jj (Jv l hl hz n 2 Z ai) ai hi o ?_;rintro _ a ⟨p,hp,rfl⟩ X;simp(disch:=omega)only[go_sem,d_,fZ,bp,true_and];have e:bn (c.set 5 (an (dN l a) 0)) 2 v (jh n h) D:=E.set o _;have T:bn (c.set 5 (an (dN l a) 0)) 2 b (jh n f) d:=G.set o _;refine kM (bytes:=32) (new:=tR n p) e rfl ai rfl ⟨aa,ai⟩ λv2 M O K ae g L=>?_
  obtain⟨N,n2,rfl⟩:=K.slice aa;have y:(c.set 5 (an (dN l a) 0)).get 5=an (dN l a) 0:=jE;have z:(c.set 5 (an (dN l a) 0)).get 6=an [aj 0,aj 0,.aA,.aA,.aA] 0:=by rw[ah.aT,ao ai];exact C
  have A:(c.set 5 (an (dN l a) 0)).get 7=an [aj n,aj n,bN q,b,v] 0:=by rw[ah.aT,ao ai];exact bp
  have U:bn M 2 b (jh n f) d:=T.other e (ja L) g J;simp only[kQ]at ae g L;have ar:=(g 5 aa (e.ne y)).trans y;have aw:=(g 6 aa (e.ne z)).trans z;have u:=(g 7 aa (e.ne A)).trans A;simp(disch:=omega)only[go_sem,ag0,k,m,u,aK];refine⟨j,nO j,h++[p],.slice N 0 n2 (.grown 2),O,⟨?_,?_,?_,?_,?_⟩,?_,?_,a,X,?_,?_,?_,U.set u _,?_,?_,?_,?_,I,?_⟩
  iterate 5 simp only[go_sem,r,s,t,B,k]
  .simp only[go_sem];congr 1;omega
  .grind
  .simp_all [ah.aT,ao]
  .simp_all [ah.aT,ao]
  .rw[ah.aT,ay rfl]
  .refine bn.set ?_ u _;rw[Ju];simpa [jh]using K
  .omega
  .rw[kQ];omega
  .rw[kQ];omega
  grind
structure fM where
 n:Nat
 obj:List b9
 is:List (List b9)
 es:List (List b9)
structure fM.aG (p:fM):Prop where
 n:p.n=1\/p.n=2
 obj:uw p.n 3 p.obj
 is:∀q∈p.is,uw p.n 2 q
 es:∀q∈p.es,uw p.n 2 q
 li:p.is.length<=2
 le:p.es.length<=1
def oh(p:fM):V:=.agg [aj p.n,aj p.n,bN p.obj,mh p.n p.is,mh p.n p.es]
def AZ(p:fM):bA (oh p):=.agg (.f5 .ii .ii (uT _) (Ie _ _) (Ie _ _))
variable{b:ah}{I:ah}{a:Nat}{d:Nat}
def QW{v:V}{l:List aF}(h:bn b 2 v (jh a l) d)(e:∀y,d≠0->b.get y=an (jh a l) d->I.get y=.none):bS b I v (mh a l):=by obtain⟨m,c,f⟩:=h.eA (H2:=I) ai e (dn.refl _);rw[Ey]at f;have:m=af l:=aa;rw[this]at c;exact c
theorem asw(l:List Int)(hl:af l<=400)(d:kY l)(a:Nat)(f:a=1\/a=2):p9 l 47 [aj a,aj 2] λv=>∃p:fM,p.n=a/\p.aG/\v=oh p:=by
 refine tZ (.f2 .ii .ii) λi hi=>bg apb ?_
 simp only[go_sem,d47,ag6];refine jj (Jv l hl d a 3 f ai) ai hi ?_ ?_
 .simp only[go_sem,q7,fX]
 rintro _ i1 ⟨j,W,rfl⟩ P;simp only[go_sem,ag5,d_,fZ,fX];refine jj (oX l hl d 3 ai) ai P ?_ ?_
 .simp only[go_sem,fX]
 rintro _ X ⟨C,a8,rfl⟩ Q;simp only[go_sem];refine asu l hl d a f j _ _ _ C ⟨[],.aA,0,⟨?_,?_,?_,?_,?_⟩,?_,by simp;omega,X,Q,?_,?_,?_,.nil,.nil,.inl rfl,?_,?_,(λ_ h=>by cases h),(λ_ h=>by cases h)⟩ ?_
 iterate 9 simp only[go_sem,fX]
 .exact aJ 8
 .exact(by decide:0<8)
 rintro ac H1 ⟨m,ab,M,⟨t,I,J,K,L⟩,f8,U,i3,R,u,a0,bp,O,a4,a',bb,a5,z,a3⟩;rw[gb];simp only[go_sem,ag4,t];refine jj (oX l hl d 2 ai) ai R u ?_;rintro _ Y ⟨D,a9,rfl⟩ S;simp only[go_sem];refine asv l hl d a f j m ab M _ _ _ D ⟨[],.aA,0,⟨?_,?_,?_,?_,?_⟩,?_,by simp;omega,Y,S,?_,?_,?_,O.set u _,.nil,.inl rfl,?_,?_,z,(λ_ h=>by cases h)⟩ ?_
 iterate 6 simp only[go_sem,t,I,J,K,L]
 .rw[ah.aT,ay rfl]
 .simp_all [ah.aT,ao]
 .simp_all [ah.aT,ao,bp]
 .grind [kQ]
 .grind [kQ]
 rintro ad r ⟨s,bo,ge,⟨e0,e1,e2,G,H⟩,ar,V,B,T,E,q,Z,x,w,ba,bc,a6,a7,N⟩;obtain⟨C,D,bX⟩:=x.bM;obtain⟨l1,l2,l3⟩:=w.bM;rw[gb];simp only[go_sem,ag3,G,H,q,Z,bX,l3];have A:∀(o:dU) y (F:au) g,g≠0->(r.set 6 o).get y=an F g->(∀k,o≠an k g)->(ah.one 5 (r.set 6 o).ag (dN l B)).get y=.none:=by intro o y F g b c h2;rw[ah.mW,ao];intro h;rw[h,ah.aT,ao ai,E]at c;cases c;exact b rfl
 refine⟨B,_,T,?_,.agg (.f5 .mm .mm .mm (QW (x.set q _) λy b c=>A _ y _ _ b c (λk e=>by cases e;exact b rfl)) (QW (w.set q _) λy b c=>A _ y _ _ b c (λk e=>by cases e;exact b rfl))),AZ ⟨a,j,m,s⟩,⟨a,j,m,s⟩,rfl,⟨f,W,z,N,U,V⟩,rfl⟩;exact E
def vD(t:b9):au:=[.str (aO t.1),bf t.2]
def lQ:aF->au
 |[]=>[]
 |t::l=>vD t++lQ l
def fq(l:aF):V:=.row (af l) (lQ l)
def KJ:∀l,af (lQ l)=af l*2
 |[]=>rfl
 |t::l=>by simp only[lQ,bw,KJ l,dZ];have:af (vD t)=2:=rfl;omega
def Fx:∀(l m:aF),lQ (l++m)=lQ l++lQ m
 |[],_=>rfl
 |t::l,m=>by simp only[gv,lQ,Fx l m,gX]
def Qs:∀l,ct (lQ l)
 |[]=>.nil
 |t::l=>l5 (.f2 .ss (n6 _)) (Qs l)
def tE(l:aF):bA (fq l):=.row _ (Qs l)
inductive qV (H:ah) (go:Nat):List V->List b9->Prop
 |nil:qV H go [] []
 |snoc {xs:List V}{l:List b9}{t:b9}{w:V}{g:Nat} (h:qV H go xs l) (hw:bn H 1 w (bL t.2) g) (hg:go≠g) (hl:g<H.ag):qV H go (xs++[.str (aO t.1),w]) (l++[t])
variable{c:au}{k:aF}
theorem qV.len(h:qV b a c k):af c=af k*2:=by
 induction h with
 |nil=>rfl
 |snoc h _ _ _ d=>grind
def qV.keep{H':ah}(h:qV b a c k)(l:∀v c g,bn b 1 v c g->a≠g->g<b.ag->bn H' 1 v c g/\d≠g/\g<H'.ag):qV H' d c k:=by
 induction h with
 |nil=>exact .nil
 |snoc _ m j hl n=>obtain⟨e,f,i⟩:=l _ _ _ m j hl;exact .snoc n e f i
def Q2{a e d:au}(h:dn b I a e)(f:dn b I c d):dn b I (a++c) (e++d):=by
 induction a generalizing e with
 |nil=>cases h;exact f
 |cons x a j=>cases h with|cons g i=>exact .cons g (j i)
def qV.eA(h:qV b a c k):dn b (ah.zero b.ag) c (lQ k):=by
 induction h with
 |nil=>exact .nil
 |@snoc c k t w g _ f j hl i=>rw[Fx];refine Q2 i (.f2 .mm ?_);obtain⟨n,d,e⟩:=f.eA (H2:=ah.zero b.ag) ai (λ_ _ _=>m7) (dn.refl _);rw[jz]at e;have:n=t.2.length:=aa;rw[this]at d;exact d
def Vl(p:aF)(n:Nat)(k:Nat)(F:Fr)(H:ah):Prop:=∃(i:Nat) (a:au) (v:V) (g:Nat),k=af p-i/\i<=af p/\rd 1 F=.ptr 5 0/\rd 2 F=.ptr 6 0/\rd 3 F=.ptr 7 0/\rd 4 F=aj i/\H.get 5=an [aj n,bN p] 0/\H.get 6=an [aj 0,.aA] 0/\H.get 7=an [aj n,v] 0/\bn H 2 v a g/\qV H g a (p.take i)/\8<=H.ag
variable{N:b9}
theorem Fc(h:k[a]? =some N):k.take (a+1)=k.take a++[N]:=by grind [lT]
def UW(p:aF)(n q:Nat)(hn:0<n/\n<=100)(Y:∀t∈p,t.2.length=n)(hq:∀t∈p,aM q t.1)(al:q<=30000000)(hl:af p<=100000000):bm 49 [d_ n p] (.agg [aj n,fq p]):=by
 refine gR (.f1 (kA _ _)) (bg apc ?_);simp only[go_sem,d49,aha,ag',d_,fZ];refine b8 (Vl p n) (af p) ⟨0,[],.aA,0,rfl,cj _,?_,?_,?_,?_,?_,?_,?_,.nil,.nil,?_⟩ ?_
 iterate 3 simp only[go_sem]
 .simp only[go_sem];rfl
 iterate 3 simp only[go_sem]
 .exact aJ 8
 rintro k a3 a ⟨i,E,v,g,rfl,hi,D,K,r,s,u,x,bp,z,j,a9⟩;obtain⟨k1,k2,bX⟩:=z.bM;rw[ag9];by_cases ab:i<af p
 .obtain⟨t,A⟩:∃t,p[i]? =some t:=⟨p[i],c4 ab⟩;have P:t∈p:=fL A;have X:=yp A;have J:=ua A;have Q:=j.len;rw[e8]at Q;simp(disch:=omega)only[go_sem,ag8,D,r,s,u,bp,dt,ny,cg,dG,X,mU];have O:¬a.ag=5:=aa;have ad:¬a.ag=7:=aa;simp(disch:=omega)only[go_sem,s,ny,cg,J,O];refine use (z2 t.1 (hq t P) al) ?_;simp(disch:=omega)only[go_sem,u,bp,J,O,ad,true_and];have a6:=Y t P;refine xM (n:=t.2.length) (cs:=bL t.2) (by rw[ah.bl,ay rfl]) aa (by rw[jz,eD]) ai ⟨aa,ai⟩ λw o F U V=>?_
  obtain⟨I,R,rfl⟩:=F.slice aa;have f:∀y,y<a.ag->o.get y=a.get y:=λy hy=>by rw[U y (xh hy),ah.bl,ao aa]
  have a5:o.ag=a.ag+3:=V;have G:=(f 5 aa).trans u;have H:=(f 6 aa).trans x;have C:=(f 7 aa).trans bp;have e:bn o 2 v E g:=z.low f aa;have a7:g=0\/g<a.ag:=by
   cases z with
   |nil=>exact .inl rfl
   |cells _ _ _ _ _ h _=>exact .inr h
  simp(disch:=omega)only[go_sem,C,true_and];refine kM (bytes:=40) (new:=[.str (aO t.1),.slice I 0 R (.grown 1)]) e rfl ai rfl ⟨aa,ai⟩ λv2 H3 L S bb l T=>?_
  obtain⟨W,n2,rfl⟩:=S.slice aa;have aw:=(l 5 aa (e.ne G)).trans G;have a0:=(l 6 aa (e.ne H)).trans H;have B:=(l 7 aa (e.ne C)).trans C;have N:∀b,g≠b->b<o.ag->L≠b:=λb c d=>by omega
  simp(disch:=omega)only[go_sem,ag7,r,s,B,aK];refine⟨af p-(i+1),aa,i+1,E++[.str (aO t.1),.slice I 0 R (.grown 1)],.slice W 0 n2 (.grown 2),L,rfl,aa,?_,?_,?_,?_,?_,?_,?_,S.set B _,?_,?_⟩
  iterate 3 simp only[go_sem,D,K,r]
  .simp only[go_sem];rfl
  .rw[ah.aT,ao ai];exact aw
  .rw[ah.aT,ao ai];exact a0
  .rw[ah.aT,ay rfl]
  .rw[Fc A];refine .snoc (g:=a.ag+1+1) (j.keep λv' a2 b c d M=>⟨?_,N b d aa,?_⟩) ?_ (N _ aa aa) ?_
   .exact((c.low f aa).other e (ja T) l (.inr d)).set B _
   .rw[kQ];omega
   .exact(F.other e (ja T) l aa).set B _
   .rw[kQ];omega
  .rw[kQ];omega
 .have Z:i=af p:=aa;rw[Z,dr (aJ _)]at j;have Q:=j.len;simp(disch:=omega)only[go_sem,ag_,D,K,r,s,u,x,bp,df,bX];have am:qV (a.set 6 (an [aj n,v] 0)) g E p:=j.keep λv' a2 b c d M=>⟨c.set x _,d,M⟩
  obtain⟨m,c,d⟩:=(z.set x (an [aj n,v] 0)).eA (H2:=ah.zero _) ai (λ_ _ _=>m7) am.eA;have hm:m=af p:=aa;rw[hm]at c;exact⟨_,.agg (.f2 .mm c),.agg (.f2 .ii (tE _)),rfl⟩
def ee(n:Nat)(p:aF):au:=[aj n,fq p]
def gV(n:Nat)(p:aF):V:=.agg (ee n p)
def gA(n:Nat):List aF->au
 |[]=>[]
 |p::l=>ee n p++gA n l
def dc(n:Nat)(l:List aF):V:=.row (af l) (gA n l)
def uh(n:Nat):∀l,af (gA n l)=af l*2
 |[]=>rfl
 |p::l=>by simp only[gA,bw,uh n l,dZ];have:af (ee n p)=2:=rfl;omega
def yu(n:Nat):∀(l m:List aF),gA n (l++m)=gA n l++gA n m
 |[],_=>rfl
 |t::l,m=>by simp only[gv,gA,yu n l m,gX]
def DH(n:Nat):∀l,ct (gA n l)
 |[]=>.nil
 |p::l=>l5 (.f2 .ii (tE _)) (DH n l)
theorem ze(n:Nat)(l:List aF):bA (dc n l):=.row _ (DH n l)
def ase(n:Nat)(l:List aF)(i:Nat):(jh n l).drop (i*2)=jh n (l.drop i):=by
 induction l generalizing i with
 |nil=>simp[jh]
 |cons t l a=>
  cases i with
  |zero=>simp[jh]
  |succ i=>rw[qR,i_];show(tR n t++jh n l).drop (af (tR n t)+i*2)=jh n (l.drop i);rw[List.drop_length_add_append,a]
def asf{n:Nat}{l:List aF}(h:l[a]? =some k):cW (eH (jh n l) (a*2)) 2=some (fZ n k):=by obtain⟨hi,rfl⟩:=jo.1 h;rw[l8,ase,mQ hi];show cW (tR n l[a]++jh n _) 2=_;rw[fB,ay (by simp[tR])];rfl
@[go_sem]theorem azZ(n:Nat)(l:List aF):di (mh n l)=some (.val (aj (af l))):=rfl
variable{q:Int}{p:IntKind}
def al7{l:List aF}(h:0<=q/\q<af l):dO none 2 [mh a l,.int p q]=some (.val (.dY (jh a l) (q.toNat*2))):=nx h
theorem Q1{v:V}{l:List aF}(h:bn b 2 v (gA a l) d)(e:∀y,d≠0->b.get y=an (gA a l) d->I.get y=.none):bS b I v (dc a l):=by obtain⟨m,c,f⟩:=h.eA (H2:=I) ai e (dn.refl _);rw[uh]at f;have:m=af l:=aa;rw[this]at c;exact c
def K7(n q:Nat)(p:aF):Prop:=(∀t∈p,t.2.length=n)/\(∀t∈p,aM q t.1)/\af p<=100000000
theorem UU(l:List aF)(n q:Nat)(t:0<n/\n<=100)(u:q<=30000000)(w:∀p∈l,K7 n q p)(hl:af l<=100000000):bm 50 [mh n l] (dc n l):=by
 refine gR (.f1 (Ie _ _)) (bg apd ?_);simp only[go_sem,d50,ahg,ahf];refine b8 (λk a f=>∃(i:Nat) (v:V) (g:Nat),k=af l-i/\i<=af l/\rd 0 a=mh n l/\rd 3 a=v/\rd 4 a=aj i/\bn f 2 v (gA n (l.take i)) g) (af l) ⟨0,.aA,0,rfl,cj _,?_,?_,?_,.nil⟩ ?_
 iterate 2 simp only[go_sem]
 .simp only[go_sem];rfl
 rintro k a f ⟨i,v,g,rfl,hi,b,h,c,j⟩;rw[ahd];by_cases s:i<af l
 .obtain⟨p,d⟩:∃p,l[i]? =some p:=⟨l[i],c4 s⟩;obtain⟨A,B,C⟩:=w p (fL d);have m:=asf (n:=n) d;have x:=uh n (l.take i);rw[e8]at x;simp(disch:=omega)only[go_sem,ahc,b,h,c,dt,al7,cg,m];refine use (UW p n q t A B u C) ?_;simp(disch:=omega)only[go_sem];refine kM (bytes:=32) (new:=ee n p) j rfl ai rfl ⟨aa,ai⟩ λz D o y E F G=>?_
  simp(disch:=omega)only[go_sem,ahb,c,aK];refine⟨af l-(i+1),aa,i+1,z,o,rfl,aa,?_,?_,?_,?_⟩
  iterate 2 simp only[go_sem,b]
  .simp only[go_sem];rfl
  .obtain⟨r,e⟩:=jo.1 d;rw[lT r,e,yu];simpa [gA]using y
 .simp(disch:=omega)only[go_sem,ahe,b,h,c,df];rw[(aa:i=af l),dr (aJ _)]at j
  grind [Q1,m7,ze]
def zH:Nat->au
 |1=>[.str [120]]
 |_=>[.str [120],.str [121]]
def fl(n:Nat):V:=.row n (zH n)
def Ic(n:Nat)(a:n=1\/n=2):bA (fl n):=by
 rcases a with rfl|rfl
 .exact .row _ (.f1 .ss)
 .exact .row _ (.f2 .ss .ss)
def aq_:ec 5 ef 48 [aj 1] (fl 1)=true:=ep
def aq':ec 5 ef 48 [aj 2] (fl 2)=true:=ep
def ara(n:Nat)(a:n=1\/n=2):bm 48 [aj n] (fl n):=by
 rcases a with rfl|rfl
 .exact eo eg aq_
 .exact eo eg aq'
def hC(p:fM):V:=.agg [fl p.n,aj p.n,fq p.obj,dc p.n p.is,dc p.n p.es]
def q2(p:fM)(a:p.n=1\/p.n=2):bA (hC p):=.agg (.f5 (Ic _ a) .ii (tE _) (ze _ _) (ze _ _))
def KI(c:a=1\/a=2)(e:d<=3)(h:uw a d k):K7 a 15 k:=⟨λt b=>(tP c t.2 (h.2.1 t b).1).1,λt b=>(h.2.1 t b).2.mono aa,by have:=h.2.2.1;omega⟩
def Lh(p:fM)(h:p.aG):bm 9 [oh p] (hC p):=by
 have a:=h.n;have c:0<p.n/\p.n<=100:=aa;obtain⟨A,B,C⟩:=KI a ai h.obj;have s:=UW p.obj p.n 15 c A B ai C;have t:=UU p.is p.n 15 c ai (λq f=>KI a ai (h.is q f)) (by have:=h.li;omega);have u:=UU p.es p.n 15 c ai (λq f=>KI a ai (h.es q f)) (by have:=h.le;omega);refine gR (.f1 (AZ _)) (bg pJ ?_);simp only[go_sem,d9,aiJ,oh];refine use (ara p.n a) ?_;have r:af (zH p.n)=p.n*1:=by rcases a with e|e<;>rw[e]<;>rfl
 simp only[go_sem,true_and];refine xM (n:=p.n) (cs:=zH p.n) ?_ c.1 r ai ⟨aa,ai⟩ λw D g i E=>?_
 .simp only[go_sem]
 obtain⟨k,z,rfl⟩:=g.slice aa;have b:=i 5 (ai:(5:Nat)<8);have d:=i 6 (ai:(6:Nat)<8);simp only[go_sem]at b d;simp only[go_sem,b,true_and];refine use s ?_;simp only[go_sem,b,true_and];refine use t ?_;simp only[go_sem,b,true_and];refine use u ?_;have v:∀l,bM (dc p.n l)=true:=λ_=>rfl
 have x:∀l,cellsOf (dc p.n l)=[dc p.n l]:=λ_=>rfl
 have bX:∀l,V.one (dc p.n l)=true:=λ_=>rfl
 have G:∀l,bM (fq l)=true:=λ_=>rfl
 have H:∀l,cellsOf (fq l)=[fq l]:=λ_=>rfl
 have y:∀l,V.one (fq l)=true:=λ_=>rfl
 simp only[go_sem,d,v,x,bX,y];obtain⟨m,j,F⟩:=(g.set d (an [V.slice k 0 z (Cap.grown 1),V.int .i64 (p.n:Int),fq p.obj,dc p.n p.is,dc p.n p.es] 0)).eA (H2:=ah.zero _) ai (λ_ _ _=>m7) (dn.refl _);have o:m=p.n:=aa;rw[o]at j;exact⟨_,.agg (.f5 j .mm .mm .mm .mm),q2 p a,rfl⟩
def Vf(b:aW):Prop:=∀c l,b=c::l->¬gx c
def Yb(a b:aW)(t:∀c∈a,gx c)(u:Vf b)(hl:af a+af b<=1000000000):bm 186 [.str (a++b)] (.aH [.str a,.str b]):=by
 refine dM (.f1 .ss) (.aH (.f2 .ss .ss)) (bg an_ ?_);simp only[go_sem,d186,abZ,abY];have j:af (a++b)=af a+af b:=bw;refine b8 (λk l q=>∃i:Nat,k=af a-i/\i<=af a/\rd 0 l=.str (a++b)/\rd 4 l=aj i) (af a) ⟨0,rfl,cj _,?_,?_⟩ ?_
 .simp only[go_sem]
 .simp only[go_sem];rfl
 rintro k l q ⟨i,rfl,hi,d,f⟩;rw[abX];by_cases w:i<af a
 .obtain⟨c,e⟩:∃c,(a++b)[i]? =some c:=⟨_,c4 aa⟩;have v:c∈a:=by rw[s4 w]at e;exact fL e
  have p:=t c v;have r:=p.1;have s:=p.2;have g:oa [.str (a++b),aj i]=some (.val (.int .u8 (c.toNat:Int))):=u0 aa (by rw[cg];exact e);simp(disch:=omega)only[go_sem,abW,d,f,j,dt,df,g,aK];refine⟨af a-(i+1),aa,i+1,rfl,aa,?_,?_⟩
  .simp only[go_sem,d]
  .simp only[go_sem];rfl
 .have m:i=af a:=aa;have n:slice3 ov false true false [.str (a++b),aj i]=some (.val (.str a)):=by rw[Kf ⟨aa,aa⟩,cg,m,vL]
  have o:slice3 ov true false false [.str (a++b),aj i]=some (.val (.str b)):=by rw[B8 ⟨aa,aa⟩,cg,m,List.drop_left]
  cases b with
  |nil=>have x:af (a++[])=af a:=aI;simp(disch:=omega)only[go_sem,GS,d,f,x,df,n,o]
  |cons c b=>
   have e:(a++c::b)[i]? =some c:=by rw[m,vI (aJ _)];simp
   have y:=u c b rfl;have g:oa [.str (a++c::b),aj i]=some (.val (.int .u8 (c.toNat:Int))):=u0 aa (by rw[cg];exact e);simp only[dZ]at j;by_cases r:c.toNat<48
   .simp(disch:=omega)only[go_sem,GS,d,f,j,dt,g,n,o]
   .have s:57<c.toNat:=by refine qI λh=>y ⟨aa,aa⟩
    simp(disch:=omega)only[go_sem,GS,d,f,j,dt,df,g,n,o]
def alH(s:aW)(hl:af s<=1000000000):bm 306 [.str s,.str [45]] (.bool (decide (s.take 1=[45]))):=by
 refine dM (.f2 .ss .ss) (.bool _) (bg aoS ?_);cases s with
 |nil=>simp(disch:=omega)only[go_sem,d306,Ow,p5,iA,kh,Int.natCast_one,dt];rfl
 |cons c s=>have a:((af ([45]:aW):Nat):Int)=1:=rfl;have d:¬((af (c::s):Nat):Int)<1:=e7;have b:slice3 ov false true false [.str (c::s),aj 1]=some (.val (.str ((c::s).take 1))):=Kf ⟨ai,by simp;omega⟩;simp(disch:=assumption)only[go_sem,d306,Ow,a,df,b]
def Yc(s:aW)(hl:af s<=1000000000):bm 185 [.str s,.str [45]] (if s.take 1=[45]then .aH [.str (s.drop 1),cY]else .aH [.str s,aR]):=by
 have a:bm 246 [.str s,.str [45]] (if s.take 1=[45]then .aH [.str (s.drop 1),cY]else .aH [.str s,aR]):=by
  refine dM (.f2 .ss .ss) (by split<;>exact .aH (.f2 .ss .bb)) (bg aow ?_);simp only[go_sem,d246,adq];refine use (alH s hl) ?_;by_cases h:s.take 1=[45]
  .have b:((af ([45]:aW):Nat):Int)=1:=rfl;have e:1<=af s:=by
    cases s with
    |nil=>cases h
    |cons c s=>simp
   have d:slice3 ov true false false [.str s,aj 1]=some (.val (.str (s.drop 1))):=B8 ⟨ai,aa⟩;simp(disch:=assumption)only[go_sem,adp,dt,b,d];rw[ay h]
  .simp(disch:=assumption)only[go_sem,df];rw[ao h]
 refine dM (.f2 .ss .ss) (by split<;>exact .aH (.f2 .ss .bb)) (bg an9 ?_);simp only[go_sem,d185,abV];refine use a ?_;split
 iterate 2 simp only[go_sem]
def aiL:dec a=[49]↔a=1:=by
 have b:dec 1=[49]:=by show(if 1=0 then _ else ds 1)=_;rw[ao ai,sj ai,show 1/10=0 from rfl,pF];rfl
 constructor
 .intro h;exact HJ (h.trans b.symm)
 .intro h;rw[h];exact b
def az(n:Nat):av:=if h:n=0 then []else n%18446744073709551616::az (n/18446744073709551616)
termination_by n
decreasing_by omega
theorem k9:az 0=[]:=by rw[az];simp
theorem HT(h:a≠0):az a=a%18446744073709551616::az (a/18446744073709551616):=by rw[az];simp[h]
theorem HU(h:a≠0)(b:a<18446744073709551616):az a=[a]:=by grind [HT,jR,mw,k9]
def j7(n:Nat):0<af (az n)↔n≠0:=by
 constructor
 .intro h e;rw[e,k9]at h;exact absurd h (Nat.lt_irrefl _)
 .intro h;rw[HT h];exact mA _
def aQ(l:av):au:=l.map λd:Nat=>V.int .u64 (d:Int)
def bx(l:av):V:=.row (af l) (aQ l)
theorem fo(l:av):af (aQ l)=af l:=by simp[aQ]
def aj_(l:av):ct (aQ l):=ct.iff.2 λv h=>by simp only[aQ,g8]at h;obtain⟨d,_,rfl⟩:=h;exact .int _ _
theorem eF(l:av):bA (bx l):=.row _ (aj_ l)
@[go_sem]theorem az6(l:av):di (bx l)=some (.val (aj (af l))):=rfl
@[go_sem]theorem azJ(l:av):bM (bx l)=true:=rfl
@[go_sem]theorem ay2(l:av):cellsOf (bx l)=[bx l]:=rfl
@[go_sem]theorem aAz(l:av):V.one (bx l)=true:=rfl
variable{g:av}
def ir(h:0<=q/\q<af g):dO none 1 [bx g,.int p q]=some (.val (.dY (aQ g) q.toNat)):=by rw[bx,nx h,eD]
def eG(h:a<af g):dw (aQ g) a=some (aC (g.getD a 0:Nat)):=by rw[iu];simp[aQ,h]
def dK(z:Int):au:=[.bool (decide (z<0)),bx (az z.natAbs)]
def ck(z:Int):V:=.agg (dK z)
def aj9(z:Int):ct (dK z):=.f2 .bb (eF _)
def gd(z:Int):bA (ck z):=.agg (aj9 z)
theorem iN(n:Nat):ck (n:Int)=.agg [aR,bx (az n)]:=by
 unfold ck dK
 grind
theorem Xo(s:aW)(M:∀c∈s,gx c)(hl:af s<=19)(eK:Nat)(y:Cap)(F:Fr)(H:ah)(R:b5)(q:rd 23 F=.slice eK 0 (af s) y)(r:rd 24 F=aj (af s))(z:rd 25 F=aj 0)(A:rd 5 F=aC 0)(B:rd 6 F=aC 1)(D:H.get eK=an (cV s) 0)
 (T:∀b,(∀t,t<5->rd t b=rd t F)->rd 5 b=aC (dv s:Nat)->rd 6 b=aC (10^(af s):Nat)->R (.exit 2) b H):bK (.loop (pc 307 3)) R F H:=by
 refine b8 (λk a o=>∃i:Nat,k=af s-i/\i<=af s/\(∀t,t<5->rd t a=rd t F)/\rd 23 a=rd 23 F/\rd 24 a=rd 24 F/\rd 25 a=aj i/\rd 5 a=aC ((dv (s.take i):Nat):Int)/\rd 6 a=aC (10^i:Nat)/\dv (s.take i)<10^i/\o=H) (af s)
  ⟨0,rfl,cj _,λ_ _=>rfl,rfl,rfl,z,by rw[A];rfl,by rw[B];rfl,by simp[dv],rfl⟩ ?_
 rintro k a o ⟨i,rfl,hi,C,g,f,u,h,j,x,rfl⟩;rw[q]at g;rw[r]at f;rw[afe];by_cases J:i<af s
 .obtain⟨c,l⟩:∃c,s[i]? =some c:=⟨_,c4 J⟩;have v:=M c (fL l);have Q:=v.1;have S:=v.2;have G:dw (cV s) i=some (.int .u8 (c.toNat:Int)):=by rw[iu,cV,hY,l];rfl
  have K:10^i<=10^18:=iI ai aa;have O:s.take (i+1)=s.take i++[c]:=by obtain⟨I,e⟩:=jo.1 l;rw[lT I,e]
  have m:dv (s.take (i+1))=10*dv (s.take i)+(c.toNat-48):=by rw[O,AV]
  have n:10^(i+1)=10^i*10:=dX _ _;obtain⟨d,E⟩:∃d,d=dv (s.take i):=⟨_,rfl⟩;obtain⟨p,L⟩:∃p,p=10^i:=⟨_,rfl⟩;rw[<-E]at h x m;rw[<-L]at j x K n;have U:af (cV s)=af s:=j6 s;have V:aE .u64 ((c.toNat:Int)-48)=((c.toNat-48:Nat):Int):=by rw[cz _ aa];omega
  have P:aE .u8 ((c.toNat:Int)-48)=((c.toNat-48:Nat):Int):=by rw[H_ _ aa];omega
  simp(disch:=omega)only[go_sem,Ox,ae5,ae4,g,f,u,h,j,dt,cH,eD,eW,cg,D,G,P,cz,aK];refine⟨af s-(i+1),aa,i+1,rfl,aa,λt N=>?_,?_,?_,?_,?_,?_,?_,rfl⟩
  .simp(disch:=omega)only[cX];exact C t N
  iterate 2 simp only[go_sem,g,q,f,r]
  .simp only[go_sem];rfl
  .simp only[go_sem];rw[m];congr 1
  .simp only[go_sem];rw[n];congr 1
  .rw[m,n];omega
 .have w:i=af s:=aa;rw[w,dr (aJ _)]at h;rw[w]at j;simp(disch:=omega)only[go_sem,Ox,f,u,df]
  grind [cX]
theorem uQ(s:aW)(a:∀c∈s,gx c):dv s<10^(af s):=by
 have:∀r:aW,(∀c∈r,gx c)->dv r.reverse<10^(af r):=by
  intro r;induction r with
  |nil=>intro _;decide
  |cons c r d=>
   intro h;have e:=d λx b=>h x (by simp[b])
   have f:=(h c aI).2
   grind [List.reverse_cons,AV,dZ,dX]
 have:=this s.reverse (by simpa using a);simpa using this
def aqg(s:aW):lmap (λb=>V.int .u8 (.ofNat b.toNat)) s=cV s:=by
 induction s with
 |nil=>rfl
 |cons a s c=>show _::lmap _ s=_;rw[c];rfl
theorem akI{v:V}(h:bn b 1 v (aQ g) a):bS b (ah.zero b.ag) v (bx g):=by obtain⟨n,c,d⟩:=h.eA (H2:=ah.zero b.ag) ai (λ_ _ _=>m7) (dn.refl _);rw[fo]at d;have:n=af g:=aa;rw[this]at c;exact c
def yh(s:Bool)(n:Nat):bm 236 [.bool s,bx (az n)] (ck (if s then-(n:Int)else n)):=by
 refine dM (.f2 .bb (eF _)) (gd _) (bg aop ?_);have hl:=j7 n;cases s with
 |false=>simp only[go_sem,d236,G3,jk];rw[iN]
 |true=>
  by_cases h:n=0
  .have a:¬(0:Int)<((af (az n):Nat):Int):=by rw[h,k9];decide
   simp(disch:=assumption)only[go_sem,d236,G3,df];rw[h];rfl
  .have a:(0:Int)<((af (az n):Nat):Int):=by have:=hl.2 h;omega
   simp(disch:=assumption)only[go_sem,d236,G3,dt];unfold ck dK;rw[b3 (aa: -((n:Nat):Int)<0),pY,eU]
def UT(z:Int):bm 231 [ck z] (ck (-z)):=by
 refine dM (.f1 (gd _)) (gd _) (bg aol ?_);simp only[go_sem,d231,acT,ck,dK];refine use (yh _ _) ?_;simp only[go_sem,ck,dK];have:(if(!decide (z<0))=true then-((z.natAbs:Nat):Int)else(z.natAbs:Int))= -z:=by
  by_cases h:z<0
  .simp[h];omega
  .simp[h];omega
 rw[this]
def zp(z:Int):bm 165 [ck z] (.bool (decide (z=0))):=by refine dM (.f1 (gd _)) (.bool _) (bg anT ?_);have hl:=j7 z.natAbs;have e:decide (((af (az z.natAbs):Nat):Int)=0)=decide (z=0):=decide_eq_decide.2 aa;simp only[go_sem,d165,abf,ck,dK,e]
theorem ajk:az 1=[1]:=HU ai ai
def o7:av:=[0,1,56,2,57,49,28,3,61,58,42,50,38,29,17,4,62,47,59,36,45,43,51,22,53,39,33,30,24,18,12,5,63,55,48,27,60,41,37,16,46,35,44,21,52,32,23,11,54,26,40,15,34,20,31,10,25,14,19,9,13,8,7,6]
def sM:av:=[0,1,28,2,29,14,24,3,30,22,20,15,25,17,4,8,31,27,13,23,21,19,16,7,26,12,18,6,11,5,10,9]
def og:av:=[1,10,100,1000,10000,100000,1000000,10000000,100000000,1000000000,10000000000,100000000000,1000000000000,10000000000000,100000000000000,1000000000000000,10000000000000000,100000000000000000,1000000000000000000,10000000000000000000]
def sS(l:av):au:=l.map λd:Nat=>V.int .u8 (d:Int)
def yt(l:av):au:=l.map λd:Nat=>V.int .u64 (d:Int)
theorem aj8(l:av):ct (sS l):=ct.iff.2 λv h=>by simp only[sS,g8]at h;obtain⟨d,_,rfl⟩:=h;exact .int _ _
theorem aj7(l:av):ct (yt l):=ct.iff.2 λv h=>by simp only[yt,g8]at h;obtain⟨d,_,rfl⟩:=h;exact .int _ _
def dV:ah:=(((ah.zero 5).set 0 (an (yt og) 0)).set 1 (an (sS o7) 0)).set 4 (an (sS sM) 0)
@[go_sem]theorem I5:dV.ag=5:=rfl
theorem lF(y:Nat):dV.get y=if y=4 then an (sS sM) 0 else if y=1 then an (sS o7) 0 else if y=0 then an (yt og) 0 else .none:=by unfold dV;simp only[ah.aT,ah.hL,eq_comm]
theorem Cc:Ar 5 dV:=by
 refine⟨rfl,λy a=>?_,λy=>?_⟩
 .rw[lF,ao aa,ao aa,ao aa]
 grind [lF,aj8,aj7]
def GT(H:ah):Prop:=Has H dV
def GT.o7(h:GT b):b.get 1=an (sS o7) 0:=h 1 _ (by rw[lF];rfl)
def GT.og(h:GT b):b.get 0=an (yt og) 0:=h 0 _ (by rw[lF];rfl)
def GT.sM(h:GT b):b.get 4=an (sS sM) 0:=h 4 _ (by rw[lF];rfl)
def GT.keep{H':ah}(h:GT b)(c:∀y,y<5->H'.get y=b.get y):GT H':=λy a e=>by rw[c y (Cc.cells e).1];exact h y a e
def e5:GT dV:=λ_ _ e=>e
def GT.set(h:GT b)(c:5<=a)(o:dU):GT (b.set a o):=h.keep λy d=>by rw[ah.aT,ao aa]
def GT.push(h:GT b)(a:5<=b.ag)(o:dU):GT (b.push o):=h.keep λy c=>by rw[ah.bl,ao aa]
def cU(f:Nat)(args:au)(r:V):Prop:=∀H,GT H->dm f args H λv a=>v=r/\a=H
variable{l:V}
def dg{args:au}(d:ct args)(h:dm a args dV λe b=>GT b/\∃v,bS b (dV.nW b.ag) e v/\bA v/\v=l):cU a args l:=λH c=>asD (R:=λv=>v=l) Cc d h H c
variable{x:cq}{s:cm}{j:Fr}{A:FuncId}
def bq{args:au}(h:cU A args l)(d:GT b)(e:s (put j x l) b):qH e9 5 x s j b (some (.fn A,args)):=(h b d).mono λv f ⟨a,c⟩=>by rw[a,c];exact e
def bO{v:V}(c:GT b)(h:v=l)(a:bA l):GT b/\∃u,bS b (dV.nW b.ag) v u/\bA u/\u=l:=⟨c,v,.same v,by rw[h];exact a,h⟩
def VK{a:Nat}(b:a<18446744073709551616)(c:d<18446744073709551616):ga (gp .and) [aC a,aC d]=some (.val (aC (a&&&d:Nat))):=by show some (bh.val (aC (pC (rH .u64) (eR .u64) (Nat.land (iy (eR .u64) (a:Int)) (iy (eR .u64) (d:Int))))))=_;rw[wR b,wR c,AD];rfl
variable{m:Nat}{D:Nat}
def Ro(h:0<=q/\q<a):dO (some a) d [.ptr m D,.int p q]=some (.val (.ptr m (D+q.toNat*d))):=by show aq (gZ (.int p q)) _=_;rw[nr p h.1];show aX (b6 (q.toNat+1) a) _=_;rw[lD aa];rfl
def avg:∀k,k<64->o7[2^k*285870213051353865%18446744073709551616/288230376151711744]? =some k/\2^k*285870213051353865%18446744073709551616/288230376151711744<64:=ai
theorem Kw(n:Nat)(a:n≠0)(h:n<18446744073709551616):cU 313 [aC n] (aj (tz n:Int)):=by
 refine dg (.f1 .ii) (bg aoW ?_);have i:=Fm (k:=64) a h;have hl:=RX 64 n a h;obtain⟨c,o⟩:=avg (tz n) i;have q:¬((n:Nat):Int)=0:=aa;have k:aE .u64 (-(n:Int))=((18446744073709551616-n:Nat):Int):=by rw[hN];omega
 have d:ga (gp .and) [aC n,aC (18446744073709551616-n:Nat)]=some (.val (aC (2^tz n:Nat))):=by
  rw[VK h aa]
  grind
 have b:aE .u64 (((2^tz n:Nat):Int)*285870213051353865)=((2^tz n*285870213051353865%18446744073709551616:Nat):Int):=by rw[hN,Int.natCast_emod,fF];rfl
 obtain⟨p,l⟩:∃p,p=2^tz n*285870213051353865%18446744073709551616:=⟨_,rfl⟩;rw[<-l]at c o b;have m:tU (p:Int) (ej 58 (h_ .u64))=((p/288230376151711744:Nat):Int):=rfl;have g:dO (some 64) 1 [.ptr 1 0,aC (p/288230376151711744:Nat)]=some (.val (.ptr 1 (p/288230376151711744))):=by rw[Ro ⟨aa,aa⟩,cg,eD,eW]
 have j:dw (sS o7) (p/288230376151711744)=some (.int .u8 ((tz n:Nat):Int)):=by rw[iu,sS,hY,c];rfl
 have f:dV.get 1=an (sS o7) 0:=e5.o7;have e:aE .i64 ((tz n:Nat):Int)=(tz n:Int):=aK _ aa;simp(disch:=assumption)only[go_sem,d313,afr,afq,df,k,d,b,m,g,f,j,e];exact bO e5 rfl (.int _ _)
def Jk{y:Nat}(h:a<18446744073709551616/\y<18446744073709551616):ga (gp .or) [aC a,aC y]=some (.val (aC (a|||y:Nat))):=by show some (bh.val (aC (pC (rH .u64) (eR .u64) (Nat.lor (iy (eR .u64) (a:Int)) (iy (eR .u64) (y:Int))))))=_;rw[wR h.1,wR h.2,AD];rfl
def TO(n k:Nat)(a:k<64):ga (gp .shr) [aC n,aj k]=some (.val (aC (n/2^k:Nat))):=by rw[Wb,ot,lM (show k<=h_ .u64 from by show k<=64;omega)]
def Va(d:Nat)(s:Nat)(k:Nat)(F:Fr)(H:ah):Prop:=∃x y:Nat,k=x+y/\rd 0 F=aC x/\rd 1 F=aC y/\rd 5 F=aj s/\x%2=1/\x<18446744073709551616/\y<18446744073709551616/\c9 x y=d/\GT H
def akS(x y:Nat)(g:x<18446744073709551616)(t:y<18446744073709551616):cU 254 [aC x,aC y] (aC (c9 x y:Int)):=by
 refine dg (.f2 .ii .ii) (bg aoB ?_);by_cases f:x=0
 .subst f;have d:ga (gp .or) [aC (0:Nat),aC y]=some (.val (aC y)):=by rw[Jk ⟨ai,t⟩];simp
  simp only[go_sem,d254,He,kh,decide_true]at d⊢;simp only[go_sem,d];rw[Nat.gcd_zero_left];exact bO e5 rfl (.int _ _)
 have U:¬((x:Nat):Int)=0:=aa;by_cases D:y=0
 .subst D;have d:ga (gp .or) [aC x,aC (0:Nat)]=some (.val (aC x)):=by rw[Jk ⟨g,ai⟩];simp
  simp(disch:=assumption)only[go_sem,d254,He,df,kh,decide_true]at d⊢;simp only[go_sem,d];rw[Nat.gcd_zero_right];exact bO e5 rfl (.int _ _)
 have V:¬((y:Nat):Int)=0:=aa;have C:x|||y≠0:=λe=>f (Nat.or_eq_zero_iff.1 e).1
 have B:x|||y<18446744073709551616:=Nat.or_lt_two_pow (n:=64) g t
 have r:=akV f D;have N:=Fm (k:=64) C B;have P:=Fm (k:=64) f g;obtain⟨W,E⟩:=Cn f;simp(disch:=first|assumption|omega)only[d254,He,adY,go_sem,↓reduceIte,mz,df,Jk]
 refine bq (Kw _ C B) e5 ?_;simp only[go_sem,adX];refine bq (Kw _ f g) e5 ?_;simp only[go_sem,adV,TO x _ P];have z:x/2^tz x<18446744073709551616:=fu (js _ _) g;obtain⟨o,d⟩:∃o,o=x/2^tz x:=⟨_,rfl⟩;rw[<-d]at r z E⊢;obtain⟨s,M⟩:∃s,s=tz (x|||y):=⟨_,rfl⟩;rw[<-M]at r N⊢;refine b8 (Va (c9 o y) s) (o+y) ⟨o,y,rfl,?_,?_,?_,E,z,t,rfl,e5⟩ ?_
 iterate 3 simp only[go_sem]
 rintro k Q R ⟨a,b,rfl,h,u,m,v,I,w,p,j⟩;rw[adT];by_cases i:b=0
 .subst i;rw[Nat.gcd_zero_right]at p;have O:ga (gp .shl) [aC a,aj s]=some (.val (aC (c9 x y:Nat))):=by rw[Wa,lM (show s<=h_ .u64 from by show s<=64;omega),<-fF,p,dy,<-r,cz];have:c9 x y<=x:=Nat.gcd_le_left _ aa;omega
  simp only[go_sem,adU,h,u,m,kh,decide_true,O];exact bO j rfl (.int _ _)
 .have S:¬((b:Nat):Int)=0:=aa;have J:=Fm (k:=64) i w;obtain⟨F,G⟩:=Cn i;have L:b/2^tz b<=b:=js _ _;simp(disch:=assumption)only[go_sem,adS,u,df];refine bq (Kw _ i w) j ?_;obtain⟨c,K⟩:∃c,c=b/2^tz b:=⟨_,rfl⟩;have q:=TO b _ J;rw[<-K]at F G L q;have A:c9 a c=c9 o y:=by rw[<-p,F,Je _ v]
  by_cases T:c<a
  .have H:((c:Nat):Int)<((a:Nat):Int):=aa;have l:(a:Int)-(c:Int)=((a-c:Nat):Int):=aa;simp(disch:=first|assumption|omega)only[Og,Of,go_sem,↓reduceIte,mz,h,q,dt,l,cz]
   refine⟨c+(a-c),aa,c,a-c,rfl,?_,?_,?_,G,aa,aa,?_,j⟩
   iterate 3 simp only[go_sem,m]
   .rw[Nat.gcd_sub_self_right aa,rX];exact A
  .have H:¬((c:Nat):Int)<((a:Nat):Int):=aa;have l:(c:Int)-(a:Int)=((c-a:Nat):Int):=aa;simp(disch:=first|assumption|omega)only[Og,Of,go_sem,↓reduceIte,mz,h,q,df,l,cz]
   refine⟨a+(c-a),aa,a,c-a,rfl,?_,?_,?_,v,I,aa,?_,j⟩
   iterate 3 simp only[go_sem,h,m]
   .rw[Nat.gcd_sub_self_right aa];exact A
def fW(a b:Int):Int:=if a<b then-1 else if b<a then 1 else 0
def Ss(a:Int):bm 288 [aj a] aR:=by refine dM (.f1 .ii) (.bool _) (bg aoH ?_);simp only[go_sem,d288,aef,decide_true]
def St(a:Int):bm 355 [aC a] aR:=by refine dM (.f1 .ii) (.bool _) (bg ao1 ?_);simp only[go_sem,d355,af',decide_true]
def C7(a b:Int):bm 298 [aj a,aj b] (aj (fW a b)):=by
 refine dM (.f2 .ii .ii) (.int _ _) (bg aoM ?_);simp only[go_sem,d298,aes];refine use (Ss a) ?_;simp only[go_sem,aer];refine use (Ss b) ?_;by_cases c:a<b
 .simp(disch:=assumption)only[go_sem,Hi,Hh,Hg,dt];rw[fW,ay c]
 .by_cases d:b<a
  .simp(disch:=assumption)only[go_sem,Hi,Hh,Hg,On,dt,df];rw[fW,ao c,ay d]
  .simp(disch:=assumption)only[go_sem,Hi,Hh,Hg,On,aeq,df];rw[fW,ao c,ao d]
def MQ(a b:Int):bm 299 [aC a,aC b] (aj (fW a b)):=by
 refine dM (.f2 .ii .ii) (.int _ _) (bg aoN ?_);simp only[go_sem,d299,aev];refine use (St a) ?_;simp only[go_sem,aeu];refine use (St b) ?_;by_cases c:a<b
 .simp(disch:=assumption)only[go_sem,Ho,Hl,Hj,dt];rw[fW,ay c]
 .by_cases d:b<a
  .simp(disch:=assumption)only[go_sem,Ho,Hl,Hj,Oo,dt,df];rw[fW,ao c,ay d]
  .simp(disch:=assumption)only[go_sem,Ho,Hl,Hj,Oo,aet,df];rw[fW,ao c,ao d]
def aiW(a w:Nat)(b:a<18446744073709551616)(g:0<w/\w<18446744073709551616):bm 314 [aC 0,aC a,aC w] (.aH [aC (a/w:Nat),aC (a%w:Nat)]):=by refine dM (.f3 .ii .ii .ii) (.aH (.f2 .ii .ii)) (bg RH ?_);have e:¬((w:Nat):Int)=0:=aa;have f:(0:Int)<((w:Nat):Int):=aa;have c:a/w<18446744073709551616:=fu (js _ _) b;have d:aE .u64 ((a/w:Nat):Int)=((a/w:Nat):Int):=cz _ ⟨w9 _,s3.2 c⟩;simp(disch:=assumption)only[go_sem,d314,OI,OH,OG,df,dt,decide_true,j5,nY,t_,z3,d]
def DP(w:Nat)(b:w<18446744073709551616):bm 253 [aC w] (bx (az w)):=by
 refine gR (.f1 .ii) (bg aoA ?_);by_cases h:w=0
 .have a:((w:Nat):Int)=0:=aa;simp(disch:=assumption)only[go_sem,d253,Oe,dt];rw[h,k9];exact⟨_,.gK,.row 0 .nil,rfl⟩
 .have a:¬((w:Nat):Int)=0:=aa;simp(disch:=assumption)only[go_sem,d253,Oe,adR,df];rw[HU h b];refine⟨bx [w],.row (m:=1) (cs:=aQ [w]) ?_ ai m7 (dn.refl _),eF _,rfl⟩;rw[fO (cs:=aQ [w]) (by simp only[go_sem];rfl)];rfl
def cc(q:Rat):au:=[.bool (decide (q.num<0)),bx (az q.num.natAbs),aR,bx (az (dd q))]
def cZ(q:Rat):V:=.agg (cc q)
def Ih(q:Rat):ct (cc q):=.f4 .bb (eF _) .bb (eF _)
def ig(q:Rat):bA (cZ q):=.agg (Ih q)
theorem y9(n:Nat):az n=W.aU n:=by
 induction n using j3 with
 |ind n a=>grind [k9,W.kz,HT,W.qf]
theorem g5(n:Nat):W.aG (az n):=by rw[y9];exact W.iX n
def Dx(n:Nat):W.aY (az n):=by rw[y9];exact W.rJ n
theorem g7(n:Nat):W.val (az n)=n:=by rw[y9];exact W.gU n
def ajl(h:W.aG g)(t:W.aY g):az (W.val g)=g:=by rw[y9];exact W.Ds h t
theorem nI(h:W.aG g):W.trim g=az (W.val g):=by rw[y9];exact W.sR h
def xL(h:a<18446744073709551616^d):af (az a)<=d:=by rw[y9];exact W.AT h
theorem pG(n:Nat):n<18446744073709551616^(af (az n)):=by grind [W.iz,g5,g7]
def nu{m n:Nat}(h:m<=n):af (az m)<=af (az n):=xL (fu h (pG n))
theorem sg{a:Int}(h:a<q):fW a q= -1:=by rw[fW,ay h]
theorem C8{a:Int}(h:a=q):fW a q=0:=by rw[fW,ao aa,ao aa]
theorem r_{a:Int}(h:q<a):fW a q=1:=by rw[fW,ao aa,ay h]
theorem xE(m n:Nat)(z:af (az m)<1000000)(A:af (az n)<1000000):bm 235 [bx (az m),bx (az n)] (aj (fW m n)):=by
 refine dM (.f2 (eF _) (eF _)) (.int _ _) (bg aoo ?_);have p:=g5 m;have q:=g5 n;have u:=Dx m;have v:=Dx n;have w:=g7 m;have x:=g7 n;generalize az m=a at*
 generalize az n=b at*
 subst w x;rcases Nat.lt_trichotomy (af a) (af b)with h|h|h
 .have o:=W.ve p v h;simp(disch:=omega)only[go_sem,d235,G2,df];refine use (C7 _ _) ?_;simp only[go_sem]
  grind [sg]
 .simp(disch:=omega)only[go_sem,d235,G2,ac3,dt,aK];refine b8 (λk F r=>∃j:Nat,rd 0 F=bx a/\rd 1 F=bx b/\rd 5 F=aj ((j:Int)-1)/\k=j/\j<=af a/\a.drop j=b.drop j) (af a) ⟨af a,?_,?_,?_,rfl,aJ _,?_⟩ ?_
  iterate 3 simp only[go_sem]
  .grind
  rintro j F r ⟨_,c,d,e,rfl,y,f⟩;rw[ac1];cases j with
  |zero=>
   have s:a=b:=by simpa using f
   simp(disch:=omega)only[go_sem,ac2,e,dt];rw[C8 (by rw[s])]
  |succ i=>
   have hi:(((i+1:Nat):Int)-1).toNat=i:=aa;have g:i<af a:=aa;have l:i<af b:=aa;rcases Nat.lt_trichotomy (a.getD i 0) (b.getD i 0)with t|heq|hgt
   .have o:=W.Bh p g l f t;simp(disch:=omega)only[go_sem,G1,c,d,e,df,ir,hi,eG];refine use (MQ _ _) ?_;simp only[go_sem]
    grind [sg]
   .simp(disch:=omega)only[go_sem,G1,ac0,c,d,e,dt,df,ir,hi,eG,aK];refine⟨i,aa,i,?_,?_,?_,rfl,aa,?_⟩
    iterate 2 simp only[go_sem,c,d]
    .simp only[go_sem];congr 1;omega
    .rw[mQ g,mQ l,f];congr 1;simpa [bT,g,l]using heq
   .have o:=W.Bh q l g f.symm hgt;simp(disch:=omega)only[go_sem,G1,c,d,e,df,ir,hi,eG];refine use (MQ _ _) ?_;simp only[go_sem]
    grind [r_]
 .have o:=W.ve q u h;simp(disch:=omega)only[go_sem,d235,G2,df];refine use (C7 _ _) ?_;simp only[go_sem]
  grind [r_]
theorem E0{b:IntKind}{h:Int}(e:0<=q/\q<=h/\h<=m/\m<=D/\q<D):slice3 (kG a) true true false [.slice d 0 m (.known D),.int p q,.int b h]=some (.val (.slice d (q.toNat*a) (h.toNat-q.toNat) (.known (D-q.toNat)))):=by
 show qA d 0 m D a (some (.int p q)) (some (.int b h))=_;unfold qA;rw[tq (l:=q.toNat) (h:=h.toNat) (nr p e.1) (nr b aa) aa aa];show some (bh.val (.slice d (Bool.casesOn (motive:=λ_=>Nat) (bt D q.toNat) (gY 0 (fz q.toNat a)) 0) (ko h.toNat q.toNat) (.known (ko D q.toNat))))=_;rw[show bt D q.toNat=false from mo.2 λc=>by have:=(beq_eq _ _).1 c;omega]
 grind
def Fk:∀l:av,W.trim l=l.take (af (W.trim l))
 |[]=>rfl
 |d::l=>by
  have a:=Fk l;unfold W.trim;split
  .rfl
  .simp only[dZ,List.take_succ_cons];rw[<-a]
theorem avH(l g:av)(b c:Nat)(p:af l<=c)(hl:af l<4294967296)(H:ah)(h:H.get b=an (aQ (l++g)) 0):
 dm 252 [.slice b 0 (af l) (.known c)] H λv a=>v=.slice b 0 (af (W.trim l)) (.known c)/\a=H:=by
 refine bg IJ ?_;simp only[go_sem,d252,G_,G9];refine b8 (λk F a=>∃m:Nat,rd 0 F=.slice b 0 (af l) (.known c)/\rd 3 F=aj m/\W.trim (l.take m)=W.trim l/\k=m/\m<=af l/\a=H) (af l) ⟨af l,?_,?_,by grind,rfl,aJ _,rfl⟩ ?_
 iterate 2 simp only[go_sem]
 rintro m F a ⟨_,d,f,e,rfl,r,rfl⟩;rw[G8];cases m with
 |zero=>simp(disch:=omega)only[go_sem,y3,d,f,df,tV];refine⟨?_,trivial⟩;rw[<-e];rfl
 |succ i=>
  have hi:(((i+1:Nat):Int)-1).toNat=i:=aa;have q:i<af (l++g):=e7;have j:(l++g).getD i 0=l.getD i 0:=by
   simp only[bT]
   grind
  have o:l.take (i+1)=l.take i++[l.getD i 0]:=by rw[lT aa,bT,c4 aa];rfl
  rw[o]at e;by_cases n:l.getD i 0=0
  .simp(disch:=omega)only[go_sem,G7,d,f,dt,aK,cH,hi,h,eG,j];refine⟨i,aa,i,?_,?_,?_,rfl,aa,rfl⟩
   .simp only[go_sem,d]
   .simp only[go_sem];congr 1;omega
   .rw[n,W.z6]at e;exact e
  .simp(disch:=omega)only[go_sem,y3,d,f,dt,df,aK,cH,hi,h,eG,j,tV]
   grind [W.z4]
def Bo(x y:Nat)(j:x<18446744073709551616)(k:y<18446744073709551616):bm 356 [aC x,aC y] (.aH [aC (x*y/18446744073709551616:Nat),aC (x*y%18446744073709551616:Nat)]):=by
 refine dM (.f2 .ii .ii) (.aH (.f2 .ii .ii)) (bg ao2 ?_);obtain⟨a,b,c,d,f,g,h,i,A,B,C,bG,e⟩:=aqY j k;have q:aE .u64 (((x%4294967296:Nat):Int)*((y%4294967296:Nat):Int))=(a:Int):=by rw[<-fF,f];exact cz _ aa
 have r:aE .u64 (((x/4294967296:Nat):Int)*((y%4294967296:Nat):Int))=(b:Int):=by rw[<-fF,g];exact cz _ aa
 have dK:aE .u64 (((x%4294967296:Nat):Int)*((y/4294967296:Nat):Int))=(c:Int):=by rw[<-fF,h];exact cz _ aa
 have s:aE .u64 (((x/4294967296:Nat):Int)*((y/4294967296:Nat):Int))=(d:Int):=by rw[<-fF,i];exact cz _ aa
 obtain⟨t,w⟩:∃t,t=b+a/4294967296:=⟨_,rfl⟩;have l:aE .u64 ((b:Int)+((a/4294967296:Nat):Int))=(t:Int):=by rw[cz _ aa];omega
 obtain⟨u,z⟩:∃u,u=t%4294967296+c:=⟨_,rfl⟩;have m:aE .u64 (((t%4294967296:Nat):Int)+(c:Int))=(u:Int):=by rw[cz _ aa];omega
 have n:aE .u64 ((d:Int)+((t/4294967296:Nat):Int))=((d+t/4294967296:Nat):Int):=by rw[cz _ aa];omega
 have hh:x*y/18446744073709551616=d+t/4294967296+u/4294967296:=by rw[e];omega
 have v:x*y<340282366920938463463374607431768211456:=by rw[e];omega
 have o:aE .u64 (((d+t/4294967296:Nat):Int)+((u/4294967296:Nat):Int))=((x*y/18446744073709551616:Nat):Int):=by rw[hh,cz _ aa];omega
 have p:aE .u64 ((x:Int)*(y:Int))=((x*y%18446744073709551616:Nat):Int):=by rw[hN,<-fF,Int.natCast_emod];rfl
 simp(disch:=omega)only[go_sem,d356,agc,agl,agk,agj,agi,agh,agf,age,agd,agb,aga,CS,sI,q,r,dK,s,l,m,n,o,p]
structure eZ (H H1:ah) (b:Nat) (cs:List V):Prop where
 ag:H1.ag=H.ag
 get:∀y,H1.get y=if y=b then an cs 0 else H.get y
def eZ.at(h:eZ b I a c):I.get a=an c 0:=by rw[h.get,ay rfl]
theorem eZ.refl(h:b.get a=an c 0):eZ b b a c:=⟨rfl,λy=>by grind⟩
def eZ.set{cs:au}(h:eZ b I a cs)(c:au):eZ b (I.set a (an c 0)) a c:=⟨h.ag,λy=>by
 rw[ah.aT];by_cases e:y=a
 .rw[ay e.symm,ay e]
 .rw[ao (λh=>e h.symm),ao e,h.get,ao e]⟩
def eZ.trans{a d:ah}{b:Nat}{f:au}(h:eZ I a b c)(g:eZ a d b f):eZ I d b f:=⟨g.ag.trans h.ag,λy=>by
 rw[g.get];by_cases e:y=b
 .rw[ay e,ay e]
 .rw[ao e,ao e,h.get,ao e]⟩
def lP(l:av)(i v:Nat):(aQ l).set i (aC v)=aQ (l.set i v):=by simp[aQ,List.map_set]
def Ad(l m:av):aQ (l++m)=aQ l++aQ m:=by simp[aQ]
theorem mO{l:av}{i:Nat}(h:i<af l):W.val (l.take (i+1))=W.val (l.take i)+18446744073709551616^i*l.getD i 0:=by rw[lT h,W.gi,jq (ja h),bT,c4 h];simp[W.val]
def EW(ds a:av)(e v:Nat):(ds++e::a).set (af ds) v=(ds++[v])++a:=aI
theorem tC{l:av}{i:Nat}(h:i<af l):l.drop i=l.getD i 0::l.drop (i+1):=by grind [mQ,c4]
def A4(ds a:av)(e:Nat):(ds++e::a).getD (af ds) 0=e:=aI
theorem Gv{P d x y z:Nat}{V X:Nat}(h:V+P*a=X+m)(b:x+y+a=d+18446744073709551616*z):V+P*d+P*18446744073709551616*z=X+P*x+(m+P*y):=by grind
theorem Vv(a d:av)(n:Nat)(z:W.aG a)(L:W.aG d)(hl:af d<=af a)(Q:af a<1000000)(J:af a=n)(b:Nat)(c:Cap)(H:ah)(D:H.get b=an (aQ a) 0):
 dm 302 [.slice b 0 n c,bx d] H λ_ i=>∃o k,af o=af a/\W.aG o/\W.val o+18446744073709551616^(af a)*k=W.val a+W.val d/\eZ H i b (aQ o):=by
 subst J;refine bg aoP ?_;simp(disch:=omega)only[go_sem,d302,aeK]
 refine b8 (λk F i=>∃(ds:av) (e:Nat),k=af d-af ds/\af ds<=af d/\rd 0 F=.slice b 0 (af a) c/\rd 1 F=bx d/\rd 4 F=aC e/\rd 8 F=bx d/\rd 9 F=aj (af d)/\rd 10 F=aj (af ds)/\e<=1/\W.aG ds/\
  W.val ds+18446744073709551616^(af ds)*e=W.val (a.take (af ds))+W.val (d.take (af ds))/\eZ H i b (aQ (ds++a.drop (af ds)))) (af d) ⟨[],0,rfl,cj _,?_,?_,?_,?_,?_,?_,aa,W.aG.nil,rfl,eZ.refl D⟩ ?_
 iterate 2 simp only[go_sem]
 .simp only[go_sem];rfl
 iterate 2 simp only[go_sem]
 .simp only[go_sem];rfl
 rintro k F i ⟨ds,e,rfl,C,g,p,h,r,l,q,t,j,m,f⟩;rw[aeE];by_cases hi:af ds<af d
 .have K:=z.getD (af ds);have P:=L.getD (af ds);have v:=tC (l:=a) (i:=af ds) aa;rw[v]at f;have w:=f.at;have G:af ds<af (aQ (ds++a.getD (af ds) 0::a.drop (af ds+1))):=by rw[fo];simp
  have I:af ds<af (ds++a.getD (af ds) 0::a.drop (af ds+1)):=aI;have x:=A4 ds (a.drop (af ds+1)) (a.getD (af ds) 0);simp(disch:=omega)only[go_sem,Ot,aeD,aeC,g,h,r,l,q,dt,ir,cH,eG,w,x,xx,fE,lP,EW,aK];obtain⟨s,y⟩:∃s,s=a.getD (af ds) 0+d.getD (af ds) 0+e:=⟨_,rfl⟩;rw[<-y];refine⟨af d-(af ds+1),aa,ds++[s%18446744073709551616],s/18446744073709551616,aI,by simp;omega,?_,?_,?_,?_,?_,?_,aa,j.app (.mk aa W.aG.nil),?_,?_⟩
  iterate 5 simp only[go_sem,g,p,r,l]
  .simp only[go_sem,bw,iA];rfl
  .rw[W.gi];simp only[bw,iA,dX,W.val,gj,dG];rw[mO aa,mO aa];exact Gv m aa
  .have:=f.set (aQ ((ds++[s%18446744073709551616])++a.drop (af ds+1)));simpa using this
 .have u:af ds=af d:=aa;simp(disch:=omega)only[go_sem,Ot,aeJ,aeI,p,l,q,df]
  refine b8 (λk F i=>∃(ds:av) (e:Nat),k=af a-af ds/\af d<=af ds/\af ds<=af a/\rd 0 F=.slice b 0 (af a) c/\rd 4 F=aC e/\rd 7 F=aj (af ds)/\e<=1/\W.aG ds/\
   W.val ds+18446744073709551616^(af ds)*e=W.val (a.take (af ds))+W.val d/\eZ H i b (aQ (ds++a.drop (af ds)))) (af a-af ds) ⟨ds,e,rfl,aa,aa,?_,?_,?_,t,j,by grind,f⟩ ?_
  iterate 3 simp only[go_sem,g,h,u]
  clear m f j t u C g p h r l q hi;rintro k M N ⟨ds,e,rfl,O,C,g,h,A,t,j,m,f⟩;rw[aeH];by_cases E:e=0
  .subst E;simp(disch:=omega)only[go_sem,h,kh,decide_true];refine⟨ds++a.drop (af ds),0,by simp;omega,j.app (z.drop _),?_,f⟩
   grind [W.gi,W.rL]
  .by_cases hi:af ds<af a
   .have K:=z.getD (af ds);have v:=tC (l:=a) (i:=af ds) aa;rw[v]at f;have w:=f.at;have G:af ds<af (aQ (ds++a.getD (af ds) 0::a.drop (af ds+1))):=by rw[fo];simp
    have I:af ds<af (ds++a.getD (af ds) 0::a.drop (af ds+1)):=aI;have x:=A4 ds (a.drop (af ds+1)) (a.getD (af ds) 0);have B:=xx (a:=a.getD (af ds) 0) (b:=0) (c:=e) aa;simp only[kh]at B;simp(disch:=omega)only[go_sem,aeG,aeF,g,h,A,dt,df,cH,eG,w,x,B,fE,lP,EW,aK];obtain⟨s,y⟩:∃s,s=a.getD (af ds) 0+e:=⟨_,rfl⟩;rw[<-y];refine⟨af a-(af ds+1),aa,ds++[s%18446744073709551616],s/18446744073709551616,aI,by simp;omega,by simp;omega,?_,?_,?_,aa,j.app (.mk aa W.aG.nil),?_,?_⟩
    iterate 2 simp only[go_sem,g]
    .simp only[go_sem,bw,iA];rfl
    .rw[W.gi];simp only[bw,iA,dX,W.val,gj,dG];rw[mO aa];have:=Gv (x:=a.getD (af ds) 0) (y:=0) (z:=s/18446744073709551616) (d:=s%18446744073709551616) m aa;omega
    .have:=f.set (aQ ((ds++[s%18446744073709551616])++a.drop (af ds+1)));simpa using this
   .have u:af ds=af a:=aa;simp(disch:=omega)only[go_sem,g,h,A,df]
    grind
def D3(q:Rat):bm 277 [cZ q] (.bool (decide (q.num=0))):=by refine dM (.f1 (ig _)) (.bool _) (bg aoG ?_);simp only[go_sem,d277,aee,cZ,cc];refine use (zp q.num) ?_;simp only[go_sem]
def S0(a b:av)(hl:af a=af b)(K:af a<=1000000000)(H:a.sum<=1000000000000)(I:b.sum<=1000000000000):bm 276 [bf a,bf b] (aj (ord a b)):=by
 refine dM (.f2 (n6 _) (n6 _)) (.int _ _) (bg aoF ?_);simp only[go_sem,d276,ad_,ad9];refine b8 (λk c q=>∃i:Nat,rd 0 c=bf a/\rd 1 c=bf b/\rd 10 c=bf a/\rd 11 c=aj (af a)/\rd 5 c=aj (((a.take i).sum:Nat):Int)/\rd 6 c=aj (((b.take i).sum:Nat):Int)/\rd 12 c=aj i/\k=af a-i/\i<=af a) (af a) ⟨0,?_,?_,?_,?_,?_,?_,?_,rfl,cj _⟩ ?_
 iterate 4 simp only[go_sem]
 .simp only[go_sem,vM];rfl
 .simp only[go_sem,vM];rfl
 .simp only[go_sem];rfl
 rintro k c q ⟨i,m,n,t,e,f,g,o,rfl,hi⟩;rw[ad'];by_cases A:i<af a
 .have F:=B_ a (i+1);have G:=B_ b (i+1);have d:=Ca A;have z:=Ca (l:=b) (i:=i) aa;simp(disch:=omega)only[go_sem,Hf,ad8,ad7,n,t,e,f,g,o,dt,j8,cg,jc,aK];refine⟨af a-(i+1),aa,i+1,?_,?_,?_,?_,?_,?_,?_,rfl,aa⟩
  iterate 4 simp only[go_sem,m,n,t,e]
  .simp only[go_sem];rw[d];rfl
  .simp only[go_sem];rw[z];rfl
  .simp only[go_sem];rfl
 .have B:i=af a:=aa;subst B;rw[dr (aJ _)]at f;rw[dr aa]at g;by_cases v:a.sum=b.sum
  .simp(disch:=omega)only[go_sem,Hf,Oi,aed,m,f,g,e,o,dt,df,aK];have p:ord a b=rl a.reverse b.reverse:=ay v;refine b8 (λk c q=>rd 0 c=bf a/\rd 1 c=bf b/\rd 9 c=aj ((k:Int)-1)/\k<=af a/\rl (a.take k).reverse (b.take k).reverse=ord a b) (af a) ⟨?_,?_,?_,aJ _,?_⟩ ?_
   iterate 3 simp only[go_sem,m,n]
   .rw[dr (aJ _),dr aa,p]
   rintro k y E ⟨l,d,r,J,h⟩;rw[aeb];cases k with
   |zero=>simp(disch:=omega)only[go_sem,aec,r,dt];rw[<-h];rfl
   |succ j=>
    have s:rd 9 y=aj j:=by rw[r];congr 1;omega
    have C:j<af a:=aa;have D:j<af b:=aa;rw[EJ C,EJ D]at h;by_cases w:a.getD j 0=b.getD j 0
    .simp(disch:=omega)only[go_sem,Oh,aea,l,d,s,dt,df,j8,cg,jc,aK];refine⟨j,nO j,?_,?_,?_,aa,?_⟩
     iterate 3 simp only[go_sem,l,d]
     .rw[<-h];simp only[rl];rw[ay w]
    .simp(disch:=omega)only[go_sem,Oh,l,d,s,df,j8,cg,jc];refine use (C7 _ _) ?_;simp only[go_sem];rw[<-h];simp only[rl];rw[ao w];unfold fW;by_cases x:b.getD j 0<a.getD j 0
     .rw[ay x,ay aa]
     .rw[ao x,ao aa,ay aa]
  .have p:ord a b=if a.sum<b.sum then-1 else 1:=ao v
   simp(disch:=omega)only[go_sem,Hf,Oi,f,g,e,o,df];refine use (C7 _ _) ?_;simp only[go_sem];rw[p];unfold fW;by_cases u:a.sum<b.sum
   .rw[ay u,ay aa]
   .rw[ao u,ao aa,ay aa]
def aiO(a:av)(hl:af a<=6)(o:a.sum<=24):bm 290 [bf a] (aj a.sum):=by
 refine dM (.f1 (n6 _)) (.int _ _) (bg aoI ?_);have n:¬(6:Int)<((af a:Nat):Int):=aa;simp(disch:=assumption)only[go_sem,d290,aem,ael,aek,df];refine b8 (λk b g=>∃i:Nat,rd 9 b=bf a/\rd 10 b=aj (af a)/\rd 3 b=aj (((a.take i).sum:Nat):Int)/\rd 11 b=aj i/\k=af a-i/\i<=af a) (af a) ⟨0,?_,?_,?_,?_,rfl,cj _⟩ ?_
 iterate 2 simp only[go_sem]
 .simp only[go_sem,vM];rfl
 .simp only[go_sem];rfl
 rintro k b g ⟨i,f,c,d,e,rfl,hi⟩;rw[aei];by_cases j:i<af a
 .have m:=B_ a (i+1);have h:=Ca j;simp(disch:=omega)only[go_sem,Oj,aeh,aeg,f,c,d,e,dt,df,j8,cg,jc,aK];refine⟨af a-(i+1),aa,i+1,?_,?_,?_,?_,rfl,aa⟩
  iterate 2 simp only[go_sem,f,c]
  .simp only[go_sem];rw[h];rfl
  .simp only[go_sem];rfl
 .have l:i=af a:=aa;rw[l,dr (aJ _)]at d;simp(disch:=omega)only[go_sem,Oj,aej,c,e,d,df]
def I0(a:av)(hl:af a<=6)(b:a.sum<=24):bm 224 [bf a] cY:=by refine dM (.f1 (n6 _)) (.bool _) (bg aog ?_);simp only[go_sem,d224,acD];refine use (aiO a hl b) ?_;simp(disch:=omega)only[go_sem,df]
def en(e:av):au:=bL e++aZ (6-af e) (aj 0)
def b7(t:b9):au:=en t.2++cc t.1
def pH(t:b9):V:=.agg (b7 t)
def BB{e:av}(h:af e<=6):af (en e)=6:=by simp[en,jz];omega
def nv{t:b9}(h:t.2.length<=6):af (b7 t)=10:=by unfold b7;rw[bw,BB h];rfl
def aj3(e:av):ct (en e):=l5 (Ib e) (ct.iff.2 λv h=>by rw[List.eq_of_mem_replicate h];exact .int _ _)
def Qi(t:b9):ct (b7 t):=l5 (aj3 _) (Ih _)
def Ia(t:b9):bA (pH t):=.agg (Qi t)
def tj:dI c=true↔∀v∈c,v.one=true:=by
 induction c with
 |nil=>exact⟨λ_ _ h=>(by cases h),λ_=>rfl⟩
 |cons a c e=>
  show and a.one (dI c)=true↔_;rw[de,e];constructor
  .rintro⟨b,d⟩ v hv;rcases jr.1 hv with rfl|hv
   .exact b
   .exact d v hv
  .exactλh=>⟨h a aI,λv hv=>h v (by simp[hv])⟩
def Ay(e:av):dI (bL e)=true:=tj.2 λv h=>by simp only[bL,g8]at h;obtain⟨d,_,rfl⟩:=h;rfl
def uM(t:b9):dI (b7 t)=true:=tj.2 λv h=>by
 unfold b7 en at h;rcases ki.1 h with h|h
 .rcases ki.1 h with h|h
  .exact tj.1 (Ay _) v h
  .rw[List.eq_of_mem_replicate h];rfl
 .exact tj.1 (show dI (cc t.1)=true from rfl) v h
def x4{l:au}(h:af c=af l):dj c l 0=some c:=by rw[mH,ay aa];simp[h]
def IV{xs l:au}(h:af xs<=af l):dj xs l 0=some (xs++l.drop (af xs)):=by rw[mH,ay aa];simp
def ajp{b:Nat}{cs:au}(d:I.get b=an cs 0)(l:6<=af cs)(e:af g<=6)(h:s (put j x (aj (af g))) (I.set b (an (bL g++cs.drop (af g)) 0))):
 gW x s j (oP 1 [.slice b 0 6 (.known 6),bf g] I):=by
 have i:ej (af g) 6=af g:=lM e;have c:oP 1 [.slice b 0 6 (.known 6),bf g] I=some (aj (af g),I.set b (an (bL g++cs.drop (af g)) 0)):=by show aq (some (af g)) (λm=>aq (eu I 1 (ej m 6) (bf g)) λk=>aq (I.fe b 0 k) λI=>some (V.int .i64 (.ofNat (ej m 6)),I))=_;show aq (eu I 1 (ej (af g) 6) (bf g)) _=_;rw[i];have f:eu I 1 (af g) (bf g)=some (bL g):=je (by rw[jz];show af g=af g*1;omega);rw[f];show aq (I.fe b 0 (bL g)) _=_;unfold ah.fe;rw[d];show aq (aX (dI (bL g)) (aq (dj (bL g) cs 0) λa=>some (I.set b (an a 0)))) _=_;rw[Ay,IV (by rw[jz];omega),jz];rfl
 rw[c];exact h
def ajP(e:av)(q:∀x∈e,x<=1048576)(hl:af e<=6)(F:Fr)(H:ah)(R:b5)(m:rd 32 F=bf e)(n:rd 33 F=aj (af e))(o:rd 34 F=aj 0)
 (p:∀d,(∀t,t<9->rd t d=rd t F)->R (.exit 0) d H):bK (.loop (pc 305 3)) R F H:=by
 refine b8 (λk a f=>∃i:Nat,k=af e-i/\i<=af e/\(∀t,t<9->rd t a=rd t F)/\rd 32 a=bf e/\rd 33 a=aj (af e)/\rd 34 a=aj i/\f=H) (af e) ⟨0,rfl,cj _,λ_ _=>rfl,m,n,o,rfl⟩ ?_;rintro k a f ⟨i,rfl,hi,j,g,b,h,rfl⟩;rw[aeX];by_cases l:i<af e
 .have r:e.getD i 0<=1048576:=by refine q _ ?_;rw[bT,c4 l];exact s5 l
  simp(disch:=omega)only[go_sem,Ov,aeV,aeU,g,b,h,dt,df,j8,cg,jc,aK];refine⟨af e-(i+1),aa,i+1,rfl,aa,λt c=>?_,?_,?_,?_,rfl⟩
  .simp(disch:=omega)only[cX];exact j t c
  iterate 2 simp only[go_sem,g,b]
  .simp only[go_sem];rfl
 .simp(disch:=omega)only[go_sem,Ov,b,h,df];refine p _ λt c=>?_
  simp(disch:=omega)only[cX];exact j t c
def apT(h:d∈g):d<=g.sum:=by
 induction g with
 |nil=>cases h
 |cons a g b=>
  rw[List.sum_cons];rcases jr.1 h with rfl|h
  .omega
  .have:=b h;omega
def qv(n:Nat):rep [V.int .u64 0] n=aQ (aZ n 0):=by
 induction n with
 |zero=>rfl
 |succ n a=>show dJ [V.int .u64 0] (rep [V.int .u64 0] n)=_;rw[iW,a];simp[aQ,qK]
variable{Y:Cap}
def sn(h:b.get a=an (aQ g) 0)(e:I.get a=.none)(f:af g=d):bS b I (.slice a 0 d Y) (bx g):=by
 subst f;cases g with
 |nil=>exact .fQ a 0 Y
 |cons c g=>refine .row (m:=af (c::g)) (cs:=aQ (c::g)) ?_ (mA _) e (dn.refl _);rw[fO h,dQ,fB,ay (by rw[fo];exact aJ _),dr (by rw[fo];exact aJ _)]
theorem sQ(l:av)(hl:af l<4294967296):bm 252 [bx l] (bx (W.trim l)):=by
 refine dM (.f1 (eF _)) (eF _) (bg IJ ?_);simp only[go_sem,d252,G_,G9];refine b8 (λk F g=>∃m:Nat,rd 0 F=bx l/\rd 3 F=aj m/\W.trim (l.take m)=W.trim l/\k=m/\m<=af l) (af l) ⟨af l,?_,?_,by grind,rfl,aJ _⟩ ?_
 iterate 2 simp only[go_sem]
 rintro m F g ⟨_,a,c,b,rfl,h⟩;rw[G8];have e:slice3 (kG 1) false true false [bx l,aj m]=some (.val (bx (l.take m))):=by rw[bx,EZ (by rw[fo,eD]) aa];simp only[bx,aQ,e8,eD,List.map_take,cg];rw[(aa:min m (af l)=m)]
 cases m with
 |zero=>simp(disch:=omega)only[go_sem,y3,a,c,df,e];rw[<-b];rfl
 |succ i=>
  have hi:(((i+1:Nat):Int)-1).toNat=i:=aa;have f:l.take (i+1)=l.take i++[l.getD i 0]:=by rw[lT aa,bT,c4 aa];rfl
  by_cases d:l.getD i 0=0
  .simp(disch:=omega)only[go_sem,G7,a,c,dt,aK,ir,hi,eG];refine⟨i,aa,i,?_,?_,?_,rfl,aa⟩
   .simp only[go_sem,a]
   .simp only[go_sem];congr 1;omega
   .rw[f,d,W.z6]at b;exact b
  .simp(disch:=omega)only[go_sem,y3,a,c,dt,df,aK,ir,hi,eG,e];rw[<-b,f,W.z4 _ _ d]
theorem DB{cs:au}(i:b.get a=an cs 0)(o:af g<=d)(q:d<=af cs)(l:s (put j x (aj (af g))) (b.set a (an (aQ g++cs.drop (af g)) 0))):
 gW x s j (oP 1 [.slice a 0 d Y,bx g] b):=by
 have n:ej (af g) d=af g:=lM o;have f:dI (aQ g)=true:=tj.2 λv h=>by simp only[aQ,g8]at h;obtain⟨x,_,rfl⟩:=h;rfl
 have e:oP 1 [.slice a 0 d Y,bx g] b=some (aj (af g),b.set a (an (aQ g++cs.drop (af g)) 0)):=by show aq (some (af g)) (λm=>aq (eu b 1 (ej m d) (bx g)) λp=>aq (b.fe a 0 p) λb=>some (V.int .i64 (.ofNat (ej m d)),b))=_;show aq (eu b 1 (ej (af g) d) (bx g)) _=_;rw[n];have k:eu b 1 (af g) (bx g)=some (aQ g):=je (by grind [fo]);rw[k];show aq (b.fe a 0 (aQ g)) _=_;unfold ah.fe;rw[i];show aq (aX (dI (aQ g)) (aq (dj (aQ g) cs 0) λc=>some (b.set a (an c 0)))) _=_;rw[f,IV (by rw[fo];omega),fo];rfl
 rw[e];exact l
def Vy(m n:Nat)(t:af (az m)<100000)(u:af (az n)<100000):bm 239 [bx (az m),bx (az n)] (bx (az (m+n))):=by
 refine gR (.f2 (eF _) (eF _)) (bg aos ?_)
 have l:∀(a b:Nat) (F:Fr),af (az b)<=af (az a)->af (az a)<100000->a+b=m+n->rd 0 F=bx (az a)->rd 1 F=bx (az b)->
  bK (pc 239 4) (gC [.tmp 4] λx d=>∃v,bS d (ah.zero d.ag) x v/\bA v/\v=bx (az (m+n))) F (ah.zero 5):=by
  intro a b F hl E i f e;by_cases C:af (az b)=0
  .have o:b=0:=qI λh=>by have:=(j7 b).2 h;omega
   simp(disch:=omega)only[go_sem,N7,f,e,dt];exact jy (by rw[<-i,o];rfl) (eF _)
  .simp(disch:=omega)only[go_sem,N7,ada,ac_,f,e,df,aK,iG,qv];have q:(aQ (aZ (af (az a)+1) 0)).drop (af (az a))=aQ [0]:=by rw[aQ,<-List.map_drop,xb,Nat.add_sub_cancel_left];rfl
   refine DB (cs:=aQ (aZ (af (az a)+1) 0)) eJ aa (by rw[fo];simp) ?_;rw[q,<-Ad];simp only[go_sem,ac9,e];have j:af (az a++[0])=af (az a)+1:=aI;have s:W.aG (az a++[0]):=(g5 a).app (.mk ai W.aG.nil);refine(Vv (az a++[0]) (az b) _ s (g5 b) aa aa j 5 _ _ ?_).mono ?_
   .simp only[go_sem]
   rintro _ d ⟨y,k,D,w,c,g⟩;have r:W.val (az a++[0])=a:=by rw[W.gi,g7];simp[W.val]
   rw[r,g7]at c;have p:k=0:=by
    have z:=pG a;have A:=fy (pG b) (iI (n:=18446744073709551616) ai hl);rw[j,dX]at c;have B:a+b<18446744073709551616^(af (az a))*18446744073709551616:=aa;cases k with
    |zero=>rfl
    |succ k=>rw[Nat.mul_succ]at c;omega
   rw[p,gj,dG,i]at c;simp only[go_sem,ac8];refine kV (sQ y aa) g.at ⟨0,_,_,fj.2 rfl⟩ (.f1 (sn g.at jE aa)) ?_;simp only[go_sem];exact jy (by rw[nI w,c]) (eF _)
 by_cases h:af (az m)<af (az n)
 .simp(disch:=omega)only[go_sem,d239,N8,dt];refine l n m _ aa u aa ?_ ?_
  iterate 2 simp only[go_sem]
 .simp(disch:=omega)only[go_sem,d239,N8,df];refine l m n _ aa t rfl ?_ ?_
  iterate 2 simp only[go_sem]
structure dB (H:ah) (b g:Nat) (cs:List V):Prop where
 row:H.get b=an cs g
 bV:∃f,H.get g=.bV b f/\f<=b
 ne:g≠0
def dB.gr(h:dB b a d c):b.gr a d=true:=by obtain⟨f,e,g⟩:=h.bV;exact wB e g
def dB.L4(h:dB b a d c):a≠d:=by obtain⟨f,g,i⟩:=h.bV;intro e;have:=h.row;rw[e,g]at this;cases this
structure nU (H H1:ah) (b g:Nat) (cs:List V):Prop where
 ob:dB H1 b g cs
 ag:H1.ag=H.ag
 get:∀y,y≠b->y≠g->H1.get y=H.get y
theorem nU.refl(h:dB b a d c):nU b b a d c:=⟨h,rfl,λ_ _ _=>rfl⟩
def ah.wr(H:ah)(b g:Nat)(a:au):ah:=(H.set b (an a g)).set g (.bV b b)
def nU.wr(h:nU b I a d c)(f:au):nU b (ah.wr I a d f) a d f:=by
 have j:=h.ob.L4;refine⟨⟨?_,⟨a,?_,aJ _⟩,h.ob.ne⟩,h.ag,λy g i=>?_⟩
 .unfold ah.wr;rw[ah.aT,ao (λe=>j e.symm),ah.aT,ay rfl]
 .unfold ah.wr;rw[ah.aT,ay rfl]
 .unfold ah.wr;rw[ah.aT,ao (λe=>i e.symm),ah.aT,ao (λe=>g e.symm)];exact h.get y g i
def u7(h:dB b d m c):jd false a [.ptr d D] b=dw c D:=by rw[IS,h.row];exact Bb h.gr
def Kg{o:Nat}{v:V}(h:dB b a d c)(n:o<af c)(g:bM v=true/\cellsOf v=[v]/\V.one v=true):qB 1 [.ptr a o,v] b=some (V.undef,ah.wr b a d (c.set o v)):=by obtain⟨f,k,_⟩:=h.bV;obtain⟨e,m⟩:∃e,d=e+1:=⟨d-1,by have:=h.ne;omega⟩;have l:=h.row;show aX (and (bM v) (bt (c_ (cellsOf v)) 1)) (aq (b.fe a o (cellsOf v)) λb=>some (V.undef,b))=_;rw[g.1,g.2.1];unfold ah.fe;rw[l];show aX true (aq (aX (and v.one true) (aq (dj [v] c o) λj=>Nat.rec (motive:=λ_=>Option ah) (some (b.set a (an j 0))) (λ_ _=>dU.casesOn (motive:=λ_=>Option ah) (b.get d) aN (λ_ _=>aN) (λi _=>aX (bt i a) (some ((b.set a (an j d)).set d (.bV a a)))) (λ_=>aN)) d)) λb=>some (V.undef,b))=_;rw[fE n,g.2.2];subst m;show aX true (aq (aX true (dU.casesOn (motive:=λ_=>Option ah) (b.get (e+1)) aN (λ_ _=>aN) (λi _=>aX (bt i a) (some ((b.set a (an (c.set o v) (e+1))).set (e+1) (.bV a a)))) (λ_=>aN))) λb=>some (V.undef,b))=_;rw[k];show aX true (aq (aX true (aX (bt a a) (some ((b.set a (an (c.set o v) (e+1))).set (e+1) (.bV a a))))) λb=>some (V.undef,b))=_;rw[uA];rfl
def z0{n:Nat}(h:dB b a d c)(e:m<af c):qB 1 [.ptr a m,aC n] b=some (V.undef,ah.wr b a d (c.set m (aC n))):=Kg h e ⟨rfl,rfl,rfl⟩
variable{O:Nat}
theorem AF{P:Nat}{V X Y:Nat}(h:X+P*d=V+Y)(b:m+18446744073709551616*O=a+D+d):X+P*m+P*18446744073709551616*O=V+P*a+(Y+P*D):=by grind
def sub_one{y:Nat}(c:a<18446744073709551616)(e:y<18446744073709551616)(b:d<=1):a+18446744073709551616*(if y+d<=a then 0 else 1)=(a+18446744073709551616-y-d)%18446744073709551616+y+d:=by split<;>omega
theorem au9(a d:av)(n:Nat)(K:W.aG a)(U:W.aG d)(hl:af d<=af a)(Z:af a<1000000)(T:af a=n)(b g:Nat)(c:Cap)(H:ah)(R:dB H b g (aQ a)):
 dm 303 [.slice b 0 n c,bx d] H λ_ j=>∃u k,af u=af a/\W.aG u/\W.val a+18446744073709551616^(af a)*k=W.val u+W.val d/\nU H j b g (aQ u):=by
 subst T;refine bg aoQ ?_;simp(disch:=omega)only[go_sem,d303,aeT]
 refine b8 (λk F j=>∃(ds:av) (e:Nat),k=af d-af ds/\af ds<=af d/\rd 0 F=.slice b 0 (af a) c/\rd 1 F=bx d/\rd 4 F=aC e/\rd 8 F=bx d/\rd 9 F=aj (af d)/\rd 10 F=aj (af ds)/\e<=1/\W.aG ds/\
  W.val (a.take (af ds))+18446744073709551616^(af ds)*e=W.val ds+W.val (d.take (af ds))/\nU H j b g (aQ (ds++a.drop (af ds)))) (af d) ⟨[],0,rfl,cj _,?_,?_,?_,?_,?_,?_,aa,W.aG.nil,rfl,nU.refl R⟩ ?_
 iterate 2 simp only[go_sem]
 .simp only[go_sem];rfl
 iterate 2 simp only[go_sem]
 .simp only[go_sem];rfl
 rintro k F j ⟨ds,e,rfl,O,i,v,l,x,t,w,m,q,P,f⟩;rw[aeN];by_cases hi:af ds<af d
 .have L:=K.getD (af ds);have V:=U.getD (af ds);have B:=tC (l:=a) (i:=af ds) aa;rw[B]at f;have r:=f.ob;have E:af ds<af (aQ (ds++a.getD (af ds) 0::a.drop (af ds+1))):=by rw[fo];simp
  have G:af ds<af (ds++a.getD (af ds) 0::a.drop (af ds+1)):=aI;have C:=A4 ds (a.drop (af ds+1)) (a.getD (af ds) 0);have D:jd false 1 [.ptr b (af ds)] j=some (aC (a.getD (af ds) 0:Nat)):=by rw[u7 r,eG G,C]
  obtain⟨s,o⟩:∃s,s=(a.getD (af ds) 0+18446744073709551616-d.getD (af ds) 0-e)%18446744073709551616:=⟨_,rfl⟩;obtain⟨z,h⟩:∃z,z=(if d.getD (af ds) 0+e<=a.getD (af ds) 0 then 0 else 1:Nat):=⟨_,rfl⟩;have y:=sub_one L V m;rw[<-o,<-h]at y;have p:=E_ (a:=a.getD (af ds) 0) (b:=d.getD (af ds) 0) m;rw[<-o,<-h]at p;have J:=z0 (n:=s) r E;have M:z<=1:=by rw[h];split<;>omega
  have I:s<18446744073709551616:=aa;clear o h;simp(disch:=omega)only[go_sem,Ou,aeM,aeL,i,l,x,t,w,dt,ir,cH,eG,D,p,J,aK];refine⟨af d-(af ds+1),aa,ds++[s],z,aI,by simp;omega,?_,?_,?_,?_,?_,?_,M,q.app (.mk I W.aG.nil),?_,?_⟩
  iterate 5 simp only[go_sem,i,v,x,t]
  .simp only[go_sem,bw,iA];rfl
  .rw[W.gi];simp only[bw,iA,dX,W.val,gj,dG]
   grind [mO,AF]
  .rw[lP,EW];have:=f.wr (aQ ((ds++[s])++a.drop (af ds+1)));simpa using this
 .have A:af ds=af d:=aa;simp(disch:=omega)only[go_sem,Ou,aeS,aeR,v,t,w,df]
  refine b8 (λk F j=>∃(ds:av) (e:Nat),k=af a-af ds/\af d<=af ds/\af ds<=af a/\rd 0 F=.slice b 0 (af a) c/\rd 4 F=aC e/\rd 7 F=aj (af ds)/\e<=1/\W.aG ds/\
   W.val (a.take (af ds))+18446744073709551616^(af ds)*e=W.val ds+W.val d/\nU H j b g (aQ (ds++a.drop (af ds)))) (af a-af ds) ⟨ds,e,rfl,aa,aa,?_,?_,?_,m,q,by grind,f⟩ ?_
  iterate 3 simp only[go_sem,i,l,A]
  clear P f q m A O i v l x t w hi;rintro k X Q ⟨ds,e,rfl,Y,O,i,l,N,m,q,P,f⟩;rw[aeQ];by_cases S:e=0
  .subst S;simp(disch:=omega)only[go_sem,l,kh,decide_true];refine⟨ds++a.drop (af ds),0,by simp;omega,q.app (K.drop _),?_,f⟩
   grind [W.gi,W.rL]
  .by_cases hi:af ds<af a
   .have L:=K.getD (af ds);have B:=tC (l:=a) (i:=af ds) aa;rw[B]at f;have r:=f.ob;have E:af ds<af (aQ (ds++a.getD (af ds) 0::a.drop (af ds+1))):=by rw[fo];simp
    have G:af ds<af (ds++a.getD (af ds) 0::a.drop (af ds+1)):=aI;have C:=A4 ds (a.drop (af ds+1)) (a.getD (af ds) 0);have D:jd false 1 [.ptr b (af ds)] Q=some (aC (a.getD (af ds) 0:Nat)):=by rw[u7 r,eG G,C]
    obtain⟨s,o⟩:∃s,s=(a.getD (af ds) 0+18446744073709551616-0-e)%18446744073709551616:=⟨_,rfl⟩;obtain⟨z,h⟩:∃z,z=(if 0+e<=a.getD (af ds) 0 then 0 else 1:Nat):=⟨_,rfl⟩;have y:=sub_one (y:=0) L ai m;rw[<-o,<-h]at y;have p:=E_ (a:=a.getD (af ds) 0) (b:=0) m;rw[<-o,<-h]at p;simp only[kh]at p;have J:=z0 (n:=s) r E;have M:z<=1:=by rw[h];split<;>omega
    have I:s<18446744073709551616:=aa;clear o h;simp(disch:=omega)only[go_sem,aeP,aeO,i,l,N,dt,df,cH,D,p,J,aK];refine⟨af a-(af ds+1),aa,ds++[s],z,aI,by simp;omega,by simp;omega,?_,?_,?_,M,q.app (.mk I W.aG.nil),?_,?_⟩
    iterate 2 simp only[go_sem,i]
    .simp only[go_sem,bw,iA];rfl
    .rw[W.gi];simp only[bw,iA,dX,W.val,gj,dG];rw[mO aa]
     grind
    .rw[lP,EW];have:=f.wr (aQ ((ds++[s])++a.drop (af ds+1)));simpa using this
   .have A:af ds=af a:=aa;simp(disch:=omega)only[go_sem,i,l,N,df]
    grind
def dB.dz(h:dB b a d (aQ g))(c:m<=g.length):b.dz a 0 m=some (aQ (g.take m)):=by unfold ah.dz;rw[yW h.row h.gr];show cW (eH (aQ g) 0) m=_;rw[dQ,fB,ay (by rw[fo];exact c)];simp[aQ,List.map_take]
def tH{l:av}(h:dB b a d (aQ g))(f:I.get a=.none)(j:af l=D)(e:g.take D=l):bS b I (.slice a 0 D Y) (bx l):=by
 subst j;have i:af l<=g.length:=by have:=congrArg af e;rw[e8]at this;omega
 cases l with
 |nil=>exact .fQ a 0 Y
 |cons c l=>refine .row (m:=af (c::l)) (cs:=aQ (c::l)) ?_ (mA _) f (dn.refl _);rw[h.dz i,e]
def J_(b:0<=q/\q<=d):slice3 (kG 1) false true false [.slice a 0 d (.grown 1),.int p q]=some (.val (.slice a 0 q.toNat (.grown 1))):=by show aX true (yl a 0 d (.grown 1) 1 none (some (.int p q)))=_;unfold yl;rw[tq (l:=0) (h:=q.toNat) rfl (nr p b.1) (cj _) aa];rfl
theorem Fi(l:av)(M:av)(n:Nat)(q:af l=n)(f:M.take n=l)(hl:M.length<4294967296)(b g:Nat)(H:ah)(j:dB H b g (aQ M)):
 dm 252 [.slice b 0 n (.grown 1)] H λv a=>v=.slice b 0 (af (W.trim l)) (.grown 1)/\a=H:=by
 subst q;have s:af l<=M.length:=by have:=congrArg af f;rw[e8]at this;omega
 refine bg IJ ?_;simp only[go_sem,d252,G_,G9];refine b8 (λk F a=>∃m:Nat,rd 0 F=.slice b 0 (af l) (.grown 1)/\rd 3 F=aj m/\W.trim (l.take m)=W.trim l/\k=m/\m<=af l/\a=H) (af l) ⟨af l,?_,?_,by grind,rfl,aJ _,rfl⟩ ?_
 iterate 2 simp only[go_sem]
 rintro m F a ⟨_,c,e,d,rfl,t,rfl⟩;rw[G8];cases m with
 |zero=>simp(disch:=omega)only[go_sem,y3,c,e,df,J_];refine⟨?_,trivial⟩;rw[<-d];rfl
 |succ i=>
  have hi:(((i+1:Nat):Int)-1).toNat=i:=aa;have p:M.getD i 0=l.getD i 0:=by
   rw[<-f];simp only[bT]
   grind
  have r:l.take (i+1)=l.take i++[l.getD i 0]:=by rw[lT aa,bT,c4 aa];rfl
  have h:jd false 1 [.ptr b i] a=some (aC (l.getD i 0:Nat)):=by rw[u7 j,eG aa,p]
  rw[r]at d;by_cases o:l.getD i 0=0
  .simp(disch:=omega)only[go_sem,G7,c,e,dt,aK,cH,hi,h];refine⟨i,aa,i,?_,?_,?_,rfl,aa,rfl⟩
   .simp only[go_sem,c]
   .simp only[go_sem];congr 1;omega
   .rw[o,W.z6]at d;exact d
  .simp(disch:=omega)only[go_sem,y3,c,e,dt,df,aK,cH,hi,h,J_]
   grind [W.z4]
def HY{bytes n:Nat}{cs:au}(c:b.get d=an [] 0)(m:0<n)(f:af cs=n*a)(h:n<=1073741824/\bytes<=1024)
 (i:s (put j x (.slice b.ag 0 n (.grown a))) ((b.push (an cs (b.ag+1))).push (.bV b.ag b.ag))):gW x s j (fU a bytes [.slice d 0 0 (.known 0),.row n cs] b):=by
 have g:eu b a n (.row n cs)=some cs:=je f;have e:fU a bytes [.slice d 0 0 (.known 0),.row n cs] b=lG b a n cs:=by
  show aq (some n) (λn=>aq (eu b a n (.row _ cs)) λk=>ku a bytes (.slice d 0 0 (.known 0)) n k b)=_;show aq (eu b a n (.row n cs)) _=_;rw[g];show Bool.casesOn (motive:=λ_=>Option (V×ah)) (fN n) (aX (jx (0+n) bytes) (Bool.casesOn (motive:=λ_=>Option (V×ah)) (b6 (0+n) 0) (aq (b.dz d 0 (0*a)) λl=>lG b a (0+n) (dJ l cs)) (aq (b.fe d (0+0*a) cs) λb=>some (V.slice d 0 (0+n) (.known 0),b)))) (some (V.slice d 0 0 (.known 0),b))=_;rw[sv aa,q5 ⟨aa,c5 (iP (aa:0+n<=1073741824) h.2) ai⟩,show b6 (0+n) 0=false from by
   cases n with
   |zero=>omega
   |succ n=>rw[eW];rfl,fO c]
  simp only[j4,dQ,Bi,By,Eu,Eb,eW]
 rw[e];exact i
theorem AJ(l:av)(h:0<af l/\af l<=1000000)(H:ah):dm 248 [bx l] H λv a=>v=.slice (H.ag+1) 0 (af l) (.grown 1)/\dB a (H.ag+1) (H.ag+2) (aQ l)/\a.ag=H.ag+3/\∀y,y<H.ag->a.get y=H.get y:=by
 refine bg RD ?_;have b:pI false (.slice 166) [bx l,.aA]=some (.val aR):=by obtain⟨n,c⟩:∃n,af l=n+1:=⟨af l-1,aa⟩;unfold bx;rw[c];rfl
 simp only[go_sem,d248,Ob,adv,b];refine HY (n:=af l) (cs:=aQ l) eJ h.1 (by rw[fo,eD]) ⟨aa,ai⟩ ?_;simp only[go_sem];refine⟨trivial,⟨?_,⟨H.ag+1,?_,aJ _⟩,aa⟩,trivial,λy d=>?_⟩
 .simp(disch:=omega)only[go_sem,ao]
 .simp(disch:=omega)only[go_sem]
 grind
theorem Ub(m n:Nat)(h:n<=m)(s:af (az m)<100000):bm 240 [bx (az m),bx (az n)] (bx (az (m-n))):=by
 refine gR (.f2 (eF _) (eF _)) (bg aot ?_);have hl:=nu h;by_cases q:af (az n)=0
 .have i:n=0:=qI λh=>by have:=(j7 n).2 h;omega
  simp(disch:=omega)only[go_sem,d240,N9,dt];exact jy (by rw[i];rfl) (eF _)
 .simp(disch:=omega)only[go_sem,d240,N9,adf,df];refine(AJ (az m) ⟨aa,aa⟩ _).mono ?_;rintro _ l ⟨rfl,g,r,_⟩;simp only[go_sem,ade];refine(au9 (az m) (az n) _ (g5 m) (g5 n) hl aa rfl 6 7 _ _ g).mono ?_;rintro _ o ⟨b,k,d,e,a,c⟩;rw[g7,g7]at a;have j:k=0:=by
   have f:=W.iz e;rw[d]at f;cases k with
   |zero=>rfl
   |succ k=>rw[Nat.mul_succ]at a;omega
  rw[j,gj,dG]at a;simp only[go_sem,adb];refine(Fi b b _ d b4 aa 6 7 _ c.ob).mono ?_;rintro _ p ⟨rfl,rfl⟩;simp only[go_sem];exact⟨_,tH c.ob m7 rfl (Fk b).symm,eF _,by rw[nI e];congr 2;omega⟩
def so{es:av}{e:Nat}(h:g.length=a):(g++e::es).getD a 0=e:=by subst h;simp
def nH{L es:av}{e v n:Nat}(h:L.length=n):(L++e::es).set n v=L++v::es:=by subst h;simp
def S4{P x z V X:Nat}(h:V+P*d=X+O*D)(b:z+x*D+d=a+18446744073709551616*m):V+P*a+P*18446744073709551616*m=X+P*z+(O+P*x)*D:=by have e:=congrArg (P* ·) b;simp only[dL,<-dx]at e;rw[fT];omega
def zG{x y:Nat}(a:x<18446744073709551616)(b:y<18446744073709551616):x*y<=340282366920938463426481119284349108225:=iP (Nat.le_of_lt_succ a) (Nat.le_of_lt_succ b)
def Vx(d a e f:av)(w n:Nat)(S:W.aG a)(X:W.aG f)(G:w<18446744073709551616)(T:af f=n)(am:af a=n)(Y:af (d++a++e)<1000000)(o b:Nat)(U:af d=o)(c:Cap)(H:ah)(N:H.get b=an (aQ (d++a++e)) 0):
 dm 300 [.slice b o n c,bx f,aC w] H λv l=>∃ds k,v=aC (k:Nat)/\k<18446744073709551616/\af ds=n/\W.aG ds/\W.val ds+18446744073709551616^n*k=W.val a+W.val f*w/\eZ H l b (aQ (d++ds++e)):=by
 refine bg aoO ?_;simp(disch:=omega)only[go_sem,d300,aeB,aeA]
 refine b8 (λk F l=>∃(ds:av) (g:Nat),k=n-af ds/\af ds<=n/\rd 0 F=.slice b o n c/\rd 1 F=bx f/\rd 2 F=aC w/\rd 7 F=aC g/\rd 14 F=bx f/\rd 15 F=aj n/\rd 16 F=aj (af ds)/\g<18446744073709551616/\W.aG ds/\
  W.val ds+18446744073709551616^(af ds)*g=W.val (a.take (af ds))+W.val (f.take (af ds))*w/\eZ H l b (aQ (d++ds++(a.drop (af ds)++e)))) n ⟨[],0,rfl,cj _,?_,?_,?_,?_,?_,?_,?_,aa,W.aG.nil,by simp[W.val],?_⟩ ?_
 iterate 3 simp only[go_sem]
 .simp only[go_sem];rfl
 iterate 2 simp only[go_sem,T]
 .simp only[go_sem];rfl
 .have:=eZ.refl N;simpa using this
 rintro k F l ⟨ds,g,rfl,hd,A,M,C,D,B,t,u,O,J,y,i⟩;rw[aey];simp only[bw]at Y;by_cases hi:af ds<n
 .have I:=X.getD (af ds);have al:=S.getD (af ds);have P:=tC (l:=a) (i:=af ds) aa;rw[P,gv]at i;have Q:=i.at;have m:af (d++ds)=o+af ds:=by rw[bw,U]
  have ad:o+af ds<af (aQ (d++ds++a.getD (af ds) 0::(a.drop (af ds+1)++e))):=by rw[fo,bw,m];simp
  have ae:o+af ds<af (d++ds++a.getD (af ds) 0::(a.drop (af ds+1)++e)):=by rw[bw,m];simp
  have R:=so (es:=a.drop (af ds+1)++e) (e:=a.getD (af ds) 0) m;have V:=zG I G;obtain⟨p,z⟩:∃p,p=f.getD (af ds) 0*w:=⟨_,rfl⟩;have E:=Bo _ _ I G;rw[<-z]at V E;obtain⟨h,K⟩:∃s,s=p%18446744073709551616+g:=⟨_,rfl⟩;obtain⟨j,L⟩:∃s,s=a.getD (af ds) 0+h%18446744073709551616:=⟨_,rfl⟩;have q:=xx (a:=p%18446744073709551616) (b:=g) (c:=0) aa;rw[dG,<-K]at q;have r:=xx (a:=a.getD (af ds) 0) (b:=h%18446744073709551616) (c:=0) aa;rw[dG,<-L]at r;rw[kh]at q r;have Z:aE .u64 (((p/18446744073709551616:Nat):Int)+((h/18446744073709551616:Nat):Int))=((p/18446744073709551616+h/18446744073709551616:Nat):Int):=by rw[cz _ aa];omega
  have w2:aE .u64 (((p/18446744073709551616+h/18446744073709551616:Nat):Int)+((j/18446744073709551616:Nat):Int))=((p/18446744073709551616+h/18446744073709551616+j/18446744073709551616:Nat):Int):=by rw[cz _ aa];omega
  simp(disch:=omega)only[go_sem,Oq,aex,C,B,t,u,dt,ir,cg,eG];refine use E ?_;simp(disch:=omega)only[go_sem,aew,A,D,u,cH,cg,Q,eG,R,q,r,Z,w2,fE,lP,nH m,aK];refine⟨n-(af ds+1),aa,ds++[j%18446744073709551616],p/18446744073709551616+h/18446744073709551616+j/18446744073709551616,aI,by simp;omega,?_,?_,?_,?_,?_,?_,?_,aa,J.app (.mk aa W.aG.nil),?_,?_⟩
  iterate 6 simp only[go_sem,A,M,C,B,t]
  .simp only[go_sem,bw,iA];rfl
  .rw[W.gi];simp only[bw,iA,dX,W.val,gj,dG];rw[mO aa,mO aa];exact S4 y (by rw[<-z];omega)
  .have:=i.set (aQ (d++(ds++[j%18446744073709551616])++(a.drop (af ds+1)++e)));simpa using this
 .have x:af ds=n:=aa;simp(disch:=omega)only[go_sem,Oq,aez,D,t,u,df];rw[x,dr aa,dr aa]at y;rw[x,mR aa,fS]at i;exact⟨ds,g,rfl,O,x,J,y,i⟩
theorem wI(n:Nat):W.aG (aZ n 0):=λx a=>by grind
def vv(n:Nat):W.val (aZ n 0)=0:=by
 induction n with
 |zero=>rfl
 |succ n a=>rw[qK];simp[W.val,a]
theorem av5{ds x b:av}(k:g.length=a+d)(e:af ds=d)(i:W.val g=W.val x*W.val (b.take a))(f:a<af b)(j:b.getD a 0=D)(h:W.val ds+18446744073709551616^d*m=W.val (g.drop a)+W.val x*D):
 W.val (g.take a++ds++[m])=W.val x*W.val (b.take (a+1)):=by
 have c:=W.rL g a aa;rw[W.gi,W.gi,bw,jq aa,e,mO f,j,dL,<-i,c];simp only[W.val,gj,dG]
 grind
theorem Sp(x a:av)(P:W.aG x)(Q:W.aG a)(lx:af x<40)(ly:af a<40)(Z:0<af x)(b:Nat)(F:Fr)(H:ah)(R:b5)(v:rd 0 F=bx x)(B:rd 6 F=.slice b 0 (af x+af a) (.known (af x+af a)))(w:rd 53 F=bx a)(y:rd 54 F=aj (af a))(z:rd 55 F=aj 0)
 (V:H.get b=an (aQ (aZ (af x+af a) 0)) 0)
 (C:∀l m L,rd 6 l=.slice b 0 (af x+af a) (.known (af x+af a))->W.aG L->L.length=af x+af a->W.val L=W.val x*W.val a->eZ H m b (aQ L)->R (.exit 1) l m):bK (.loop (pc 237 3)) R F H:=by
 refine b8 (λk c n=>∃(j:Nat) (A:av),k=af a-j/\j<=af a/\rd 0 c=bx x/\rd 6 c=.slice b 0 (af x+af a) (.known (af x+af a))/\rd 53 c=bx a/\rd 54 c=aj (af a)/\rd 55 c=aj j/\W.aG A/\A.length=j+af x/\W.val A=W.val x*W.val (a.take j)/\
  eZ H n b (aQ (A++aZ (af a-j) 0))) (af a) ⟨0,aZ (af x) 0,rfl,cj _,v,B,w,y,z,wI _,aI,by rw[vv];simp[W.val],?_⟩ ?_
 .grind [eZ.refl,List.replicate_append_replicate]
 rintro k c n ⟨j,A,rfl,X,o,g,p,e,f,i,hl,h,d⟩;rw[ac6];by_cases hi:j<af a
 .have S:=Q.getD j;obtain⟨r,I⟩:∃r,af a-j=r+1:=⟨af a-j-1,aa⟩;rw[I,qK]at d;have J:slice3 (kG 1) true true false [.slice b 0 (af x+af a) (.known (af x+af a)),aj j,aj ((j:Int)+(af x:Int))]=some (.val (.slice b j (af x) (.known (af x+af a-j)))):=by rw[E0 aa];congr 3<;>omega
  have O:aE .i64 ((j:Int)+(af x:Int))=(j:Int)+(af x:Int):=aK _ aa;simp(disch:=omega)only[go_sem,N5,ac5,o,g,p,e,f,dt,ir,cg,eG,O,J];have K:A++0::aZ r 0=A.take j++A.drop j++0::aZ r 0:=by rw[p6]
  have t:=d.at;rw[K]at t;refine(Vx (A.take j) (A.drop j) (0::aZ r 0) x (a.getD j 0) _ (i.drop _) P S rfl (by rw[lB];omega) e7 j b (jq aa) _ _ t).mono ?_;rintro _ U ⟨ds,k,rfl,G,D,T,N,s⟩;have E:=s.at;have q:af (A.take j++ds)=j+af x:=b4;have Y:j+af x<af (aQ (A.take j++ds++0::aZ r 0)):=by rw[fo,bw,q];simp
  have M:((j:Int)+(af x:Int)).toNat=j+af x:=aa;simp(disch:=omega)only[go_sem,ac4,f,cH,M,E,fE,lP,nH q,aK];refine⟨r,aa,j+1,A.take j++ds++[k],aa,aa,?_,?_,?_,?_,?_,((i.take _).app T).app (.mk G W.aG.nil),by grind,av5 hl D h hi rfl N,?_⟩
  iterate 4 simp only[go_sem,o,g,p,e]
  .simp only[go_sem];rfl
  .have:=(d.trans s).set (aQ (A.take j++ds++k::aZ r 0))
   grind
 .have u:j=af a:=aa;simp(disch:=omega)only[go_sem,N5,e,f,df];rw[u,dr (aJ _)]at h;rw[u,nQ,qL,hU]at d;refine C _ _ A ?_ i aa h d;simp only[go_sem,g]
theorem aq3(m n:Nat)(J:af (az m)<40)(K:af (az n)<40):bm 237 [bx (az m),bx (az n)] (bx (az (m*n))):=by
 refine gR (.f2 (eF _) (eF _)) (bg aoq ?_)
 have G:∀(a b:Nat) (F:Fr),af (az b)<=af (az a)->af (az a)<40->a*b=m*n->rd 0 F=bx (az a)->rd 1 F=bx (az b)->
  bK (pc 237 16) (gC [.tmp 4] λy i=>∃v,bS i (ah.zero i.ag) y v/\bA v/\v=bx (az (m*n))) F (ah.zero 5):=by
  intro a b F Q D u f l;have E:af (az b)<40:=aa;have o:aE .i64 (((af (az a):Nat):Int)+1)=((af (az a)+1:Nat):Int):=by rw[aK _ aa];omega
  have p:aE .i64 (((af (az a)+1)/2:Nat):Int)=(((af (az a)+1)/2:Nat):Int):=by rw[aK _ aa]
  have M:¬(2:Int)=0:=ai;have C:((af (az a):Int)+(af (az b):Int)).toNat=af (az a)+af (az b):=aa;have s:mP ((af (az a)+1:Nat):Int) 2=(((af (az a)+1)/2:Nat):Int):=rfl;by_cases N:af (az b)=0
  .have I:b=0:=qI λh=>by have:=(j7 b).2 h;omega
   simp(disch:=omega)only[go_sem,Dl,Dk,f,l,dt,o,j5,s,p];rw[<-u,I,gj,k9];exact⟨_,.gK,.row 0 .nil,rfl⟩
  .by_cases k:af (az b)=1/\(az b).getD 0 0=1
   .have B:b=1:=by
     rw[<-g7 b];obtain⟨k,t⟩:=k
     match O:az b,k,t with
     |[x],_,t=>have:x=1:=t;simp[W.val,this]
    have w:dO none 1 [bx (az b),aj 0]=some (.val (.dY (aQ (az b)) 0)):=ir ⟨ai,aa⟩;simp(disch:=omega)only[go_sem,Dl,Dk,f,l,dt,df,o,j5,s,p,w,eG,k.2]
    first
     |exact jy (by rw[<-u,B,eD]) (eF _)
     |(simp only[go_sem,decide_true,f];exact jy (by rw[<-u,B,eD]) (eF _))
   .have A:∀(c:Fr) (d:ah) (L:av),rd 6 c=.slice 5 0 (af (az a)+af (az b)) (.known (af (az a)+af (az b)))->W.aG L->L.length=af (az a)+af (az b)->W.val L=W.val (az a)*W.val (az b)->∀(z:ah),eZ z d 5 (aQ L)->
     bK (.seq (.c7 [ex 77 (mv (rd 6)),ex 78 (bU 252 [(rd 77)]),ex 4 (bJ (rd 78))]) .ret) (gC [.tmp 4] λy i=>∃v,bS i (ah.zero i.ag) y v/\bA v/\v=bx (az (m*n))) c d:=by
     intro c d L j r hl q z g;simp only[go_sem,j];refine kV (sQ L aa) g.at ⟨0,_,_,fj.2 rfl⟩ (.f1 (sn g.at jE hl)) ?_;simp only[go_sem];exact jy (by grind [nI,g7]) (eF _)
    by_cases H:af (az b)=1
    .have w:dO none 1 [bx (az b),aj 0]=some (.val (.dY (aQ (az b)) 0)):=ir ⟨ai,aa⟩;have P:¬(((az b).getD 0 0:Nat):Int)=1:=λe=>k ⟨H,aa⟩
     simp(disch:=omega)only[go_sem,Dl,Dk,f,l,dt,df,o,j5,s,p,w,eG,aK,iG,C,qv];refine Sp (az a) (az b) (g5 a) (g5 b) D E aa 5 _ _ _ ?_ ?_ ?_ ?_ ?_ ?_ ?_
     iterate 6 simp only[go_sem,f]
     .intro c d L j r hl q g;rw[gb];exact A c d L j r hl q _ g
    .simp(disch:=omega)only[go_sem,Dl,Dk,f,l,dt,df,o,j5,s,p,aK,iG,C,qv];refine Sp (az a) (az b) (g5 a) (g5 b) D E aa 5 _ _ _ ?_ ?_ ?_ ?_ ?_ ?_ ?_
     iterate 6 simp only[go_sem,f]
     .intro c d L j r hl q g;rw[gb];exact A c d L j r hl q _ g
 by_cases h:af (az m)<af (az n)
 .simp(disch:=omega)only[go_sem,d237,N4,dt];refine G n m _ aa K (dy _ _) ?_ ?_
  iterate 2 simp only[go_sem]
 .simp(disch:=omega)only[go_sem,d237,N4,df];refine G m n _ aa J rfl ?_ ?_
  iterate 2 simp only[go_sem]
def zI{x y:Nat}(h:x<18446744073709551616/\y<18446744073709551616):ga (gp .or) [aC x,aC y]=some (.val (aC (x|||y:Nat))):=by show some (bh.val (aC (pC (rH .u64) (eR .u64) (Nat.lor (iy (eR .u64) (x:Int)) (iy (eR .u64) (y:Int))))))=_;rw[show iy (eR .u64) (x:Int)=x from jR h.1,show iy (eR .u64) (y:Int)=y from jR h.2];rfl
theorem vi{s:Nat}(a:s<=64):(18446744073709551616:Nat)=2^(64-s)*2^s:=by rw[<-iB,(aa:64-s+s=64)]
theorem Jl{x s:Nat}(b:s<=64)(d:a<2^s):a|||(x*2^s)%18446744073709551616=a+(x*2^s)%18446744073709551616:=by
 have c:(x*2^s)%18446744073709551616=(x%2^(64-s))<<<s:=by rw[vi b,uD,Nat.shiftLeft_eq]
 grind [Nat.shiftLeft_add_eq_or_of_lt,i_]
theorem F4{x s:Nat}(c:s<=64)(g:a<2^s):a+(x*2^s)%18446744073709551616<18446744073709551616:=by
 have e:=vi c;have d:(x*2^s)%18446744073709551616=(x%2^(64-s))*2^s:=by rw[e,uD]
 have b:x%2^(64-s)+1<=2^(64-s):=fD _ (gE ai);have f:=ei (2^s) b
 grind
theorem TN{w:Nat}(b:a<=64):w/2^(64-a)=w*2^a/18446744073709551616:=by grind [vi,Nat.mul_div_mul_right,gE]
def TI{s:Nat}(b:a<18446744073709551616):a*2^s/18446744073709551616<2^s:=xd (qQ b (gE ai))
theorem at6{v:Nat}{X:Nat}(hl:g.length=a)(b:W.val (g++[d])=X):W.val (g++[d+v%18446744073709551616]++[v/18446744073709551616])=X+18446744073709551616^a*v:=by
 rw[<-b,W.gi,W.gi,W.gi,bw,hl];simp only[W.val,gj,dG,iA,dX]
 grind [dx,dL,Nat.mod_add_div]
theorem zT(n s:Nat)(S:s<=63)(ln:af (az n)<100000):bm 358 [bx (az n),aC s] (bx (az (n*2^s))):=by
 refine gR (.f2 (eF _) .ii) (bg ao3 ?_);have E:=g5 n;have D:=g7 n;by_cases G:af (az n)=0
 .have J:n=0:=qI λh=>by have:=(j7 n).2 h;omega
  simp(disch:=omega)only[go_sem,d358,Hz,dt];exact jy (by rw[J,j4]) (eF _)
 .by_cases T:s=0
  .subst T;simp(disch:=omega)only[go_sem,d358,Hz,df,kh,decide_true];exact jy (by rw[r0,eD]) (eF _)
  .have a0:¬(64:Int)=0:=ai;have ad:mP (s:Int) 64=0:=by show(((s/64:Nat)):Int)=0;omega
   have ae:oB (s:Int) 64=(s:Int):=by show(((s%64:Nat)):Int)=_;omega
   have w0:aE .u64 (0:Int)=0:=cz _ ai;have w1:aE .i64 (0:Int)=0:=aK _ ai;have B:(((af (az n):Nat):Int)+1).toNat=af (az n)+1:=aa;simp(disch:=omega)only[go_sem,d358,Hz,ags,agr,agq,df,j5,nY,ad,ae,w0,w1,aK,Int.add_zero,iG,B,qv];generalize az n=x at E D G ln B⊢
   have P:ej s (h_ .u64)=s:=lM (aa:s<=64);have Q:ej (64-s) (h_ .u64)=64-s:=lM (aa:64-s<=64);have I:aE .u64 ((64:Int)-(s:Int))=((64-s:Nat):Int):=by rw[cz _ aa];omega
   refine b8 (λk a j=>∃(i t:Nat) (A:av),k=af x-i/\i<=af x/\rd 5 a=aj 0/\rd 6 a=aC s/\rd 7 a=.slice 5 0 (af x+1) (.known (af x+1))/\rd 29 a=bx x/\rd 30 a=aj (af x)/\rd 31 a=aj i/\W.aG A/\A.length=i/\t<2^s/\W.val (A++[t])=W.val (x.take i)*2^s/\
    eZ ((ah.zero 5).push (an (aQ (aZ (af x+1) 0)) 0)) j 5 (aQ (A++t::aZ (af x-i) 0))) (af x) ⟨0,0,[],rfl,cj _,?_,?_,?_,?_,?_,?_,W.aG.nil,rfl,gE ai,by simp[W.val],eZ.refl ?_⟩ ?_
   iterate 5 simp only[go_sem]
   .simp only[go_sem];rfl
   .simp only[go_sem];rfl
   rintro k a j ⟨i,t,A,rfl,hi,o,p,d,l,c,m,F,hl,C,g,b⟩;rw[ago];have aw:2^s<=2^63:=iI ai S;have ar:(2:Nat)^63=9223372036854775808:=ai;by_cases N:i<af x
   .have Z:=E.getD i;obtain⟨r,R⟩:∃r,af x-i=r+1:=⟨af x-i-1,aa⟩;rw[R,qK (n:=r)]at b;have K:=b.at;have u:=Jl (x:=x.getD i 0) (aa:s<=64) C;have q:=F4 (x:=x.getD i 0) (aa:s<=64) C;have y:=TN (w:=x.getD i 0) (aa:s<=64);have z:=TI (s:=s) Z;have w:((x.getD i 0:Nat):Int)*((2^s:Nat):Int)=((x.getD i 0*2^s:Nat):Int):=by rw[fF]
    have f:=at6 (v:=x.getD i 0*2^s) hl g;have X:W.val (x.take i)*2^s+18446744073709551616^i*(x.getD i 0*2^s)=W.val (x.take (i+1))*2^s:=by rw[mO N,fT,dx]
    rw[X]at f;generalize x.getD i 0*2^s=v at u q y z w f
    have Y:aE .u64 ((v:Nat):Int)=((v%18446744073709551616:Nat):Int):=by rw[hN,Int.natCast_emod];rfl
    have a1:i<af (aQ (A++t::0::aZ r 0)):=by rw[fo,bw,hl];simp
    have a2:i<af (A++t::0::aZ r 0):=by rw[bw,hl];simp
    have a3:i+1<af (aQ (A++(t+v%18446744073709551616)::0::aZ r 0)):=by rw[fo,bw,hl];simp
    have L:=so (es:=0::aZ r 0) (e:=t) hl;have U:=nH (es:=0::aZ r 0) (e:=t) (v:=t+v%18446744073709551616) hl;have V:(A++(t+v%18446744073709551616)::0::aZ r 0).set (i+1) (v/18446744073709551616)=A++(t+v%18446744073709551616)::(v/18446744073709551616)::aZ r 0:=by have:=nH (L:=A++[t+v%18446744073709551616]) (es:=aZ r 0) (e:=0) (v:=v/18446744073709551616) (n:=i+1) (by rw[bw,hl];rfl);simpa using this
    have M:((i:Int)+1).toNat=i+1:=aa;have a4:v/18446744073709551616<18446744073709551616:=aa;simp(disch:=omega)only[go_sem,OR,agn,agm,o,p,d,l,c,m,dt,ir,cH,cg,eG,aK,Int.add_zero,P,Q,I,w,Y,ot,y,K,L,zI,u,fE,lP,U,M,V];refine⟨r,aa,i+1,v/18446744073709551616,A++[t+v%18446744073709551616],aa,aa,?_,?_,?_,?_,?_,?_,F.app (.mk q W.aG.nil),by rw[bw,hl];rfl,z,f,?_⟩
    iterate 5 simp only[go_sem,o,p,d,l,c]
    .simp only[go_sem];rfl
    .have H:=b.set (aQ (A++(t+v%18446744073709551616)::0::aZ r 0));have h2:=H.set (aQ (A++(t+v%18446744073709551616)::(v/18446744073709551616)::aZ r 0))
     grind
   .have e:i=af x:=aa;simp(disch:=omega)only[go_sem,OR,agp,d,c,m,df];rw[e,nQ,qL]at b;rw[e,dr (aJ _),D]at g;have ac:W.aG (A++[t]):=F.app (.mk aa W.aG.nil);have O:af (A++[t])=af x+1:=by rw[bw,hl,e];rfl
    refine kV (sQ (A++[t]) aa) b.at ⟨0,_,_,fj.2 rfl⟩ (.f1 (sn b.at jE O)) ?_;simp only[go_sem];exact jy (by rw[nI ac,g]) (eF _)
def TJ{s e:Nat}(a:s<=64):(e*2^(64-s))%18446744073709551616=(e%2^s)*2^(64-s):=by
 have h:(18446744073709551616:Nat)=2^s*2^(64-s):=by rw[<-iB,(aa:s+(64-s)=64)]
 rw[h,uD]
def HP{s d:Nat}(b:s<=64)(a:d<18446744073709551616):d/2^s<2^(64-s):=by refine xd ?_;rw[<-iB,(aa:s+(64-s)=64)];exact a
theorem yo(h:a<af g):g.take (a+1)=g.take a++[g.getD a 0]:=by grind [lT,c4]
def auc(n s:Nat)(E:s<=63)(ln:af (az n)<100000):bm 363 [bx (az n),aC s] (bx (az (n/2^s))):=by
 refine gR (.f2 (eF _) .ii) (bg IL ?_);have l:=g5 n;have G:=g7 n;have a0:¬(64:Int)=0:=ai;have J:mP (s:Int) 64=0:=by show(((s/64:Nat)):Int)=0;omega
 have ar:oB (s:Int) 64=(s:Int):=by show(((s%64:Nat)):Int)=_;omega
 have K:aE .u64 (0:Int)=0:=cz _ ai;have w1:aE .i64 (0:Int)=0:=aK _ ai;have L:aE .u64 ((af (az n):Nat):Int)=((af (az n):Nat):Int):=cz _ aa;by_cases M:af (az n)=0
 .have P:n=0:=qI λh=>by have:=(j7 n).2 h;omega
  simp(disch:=omega)only[go_sem,d363,Dp,j5,J,K,L,df];rw[P,Nat.zero_div,k9];exact⟨_,.gK,.row 0 .nil,rfl⟩
 .have ht:(((af (az n):Nat):Int)-0).toNat=af (az n):=aa;simp(disch:=omega)only[go_sem,d363,Dp,OX,OW,OV,dt,j5,nY,J,ar,K,w1,L,aK,Int.sub_zero,cg,iG,qv];generalize az n=x at l G M ln⊢
  obtain⟨y,e⟩:∃y,y=W.shr s x:=⟨_,rfl⟩;have ae:af y=af x:=by rw[e,W.vo]
  have am:W.val y=n/2^s:=by rw[e,W.zV E,G]
  have al:W.aG y:=by rw[e];exact W.yg E l
  have ad:∀i,i<af x->y.getD i 0=x.getD i 0/2^s+(x.getD (i+1) 0%2^s)*2^(64-s):=λi hi=>by rw[e];exact W.zU hi
  clear e;have C:ej s (h_ .u64)=s:=lM (aa:s<=64);have X:ej (64-s) (h_ .u64)=64-s:=lM (aa:64-s<=64);have O:aE .u64 ((64:Int)-(s:Int))=((64-s:Nat):Int):=by rw[cz _ aa];omega
  refine b8 (λk a w=>∃i:Nat,k=af x-i/\i<=af x/\rd 0 a=bx x/\rd 5 a=aj 0/\rd 6 a=aC s/\rd 7 a=.slice 5 0 (af x) (.known (af x))/\rd 26 a=aj (af x)/\rd 27 a=aj i/\
   eZ ((ah.zero 5).push (an (aQ (aZ (af x) 0)) 0)) w 5 (aQ (y.take i++aZ (af x-i) 0))) (af x) ⟨0,rfl,cj _,?_,?_,?_,?_,?_,?_,eZ.refl ?_⟩ ?_
  iterate 5 simp only[go_sem]
  .simp only[go_sem];rfl
  .simp only[go_sem];rfl
  rintro k a w ⟨i,rfl,hi,f,g,j,d,c,o,b⟩;rw[OT];by_cases U:i<af x
  .have I:=l.getD i;have a6:=l.getD (i+1);obtain⟨r,Z⟩:∃r,af x-i=r+1:=⟨af x-i-1,aa⟩;rw[Z,qK (n:=r)]at b;have hl:af (y.take i)=i:=jq aa;have a2:i<af (aQ (y.take i++0::aZ r 0)):=by rw[fo,bw,hl];simp
   have A:=b.at;have F:=λv=>nH (es:=aZ r 0) (e:=0) (v:=v) hl
   have p:=b.set (aQ (y.take i++(x.getD i 0/2^s)::aZ r 0));have m:=ad i U;have z:=HP (s:=s) aa I;have S:((i:Int)+1).toNat=i+1:=aa;by_cases a1:i+1<af x
   .have t:=TJ (e:=x.getD (i+1) 0) (s:=s) aa;have q:=Jl (x:=x.getD (i+1) 0) (s:=64-s) aa z;have V:=F4 (x:=x.getD (i+1) 0) (s:=64-s) aa z;rw[t,<-m]at q V;have Y:((x.getD (i+1) 0:Nat):Int)*((2^(64-s):Nat):Int)=((x.getD (i+1) 0*2^(64-s):Nat):Int):=by rw[fF]
    have H:aE .u64 ((x.getD (i+1) 0*2^(64-s):Nat):Int)=(((x.getD (i+1) 0%2^s)*2^(64-s):Nat):Int):=by rw[hN,<-t,Int.natCast_emod];rfl
    have B:(x.getD (i+1) 0%2^s)*2^(64-s)<18446744073709551616:=by rw[<-t];exact fD _ ai
    have Q:x.getD i 0/2^s<18446744073709551616:=fu (js _ _) I;have a3:i<af (aQ (y.take i++(x.getD i 0/2^s)::aZ r 0)):=by rw[fo,bw,hl];simp
    have a4:i<af (y.take i++(x.getD i 0/2^s)::aZ r 0):=by rw[bw,hl];simp
    have R:=so (es:=aZ r 0) (e:=x.getD i 0/2^s) hl;have ab:=nH (es:=aZ r 0) (e:=x.getD i 0/2^s) (v:=y.getD i 0) hl;generalize(x.getD (i+1) 0%2^s)*2^(64-s)=u at q H B
    have D:=zI ⟨Q,B⟩;rw[q]at D;simp(disch:=omega)only[go_sem,y4,Dn,Dm,f,g,j,d,c,o,dt,ir,cH,cg,S,eG,aK,Int.add_zero,C,X,O,Y,H,ot,A,R,D,fE,lP,F,ab];refine⟨r,aa,i+1,aa,aa,?_,?_,?_,?_,?_,?_,?_⟩
    iterate 5 simp only[go_sem,f,g,j,d,c]
    .simp only[go_sem];rfl
    .have N:=p.set (aQ (y.take i++y.getD i 0::aZ r 0));rw[(aa:af x-(i+1)=r),yo aa,gX];exact N
   .have ac:x.getD (i+1) 0=0:=by rw[bT,lA aa];rfl
    rw[ac,Nat.zero_mod,j4,dG]at m;rw[<-m]at p;simp(disch:=omega)only[go_sem,y4,Dn,Dm,f,g,j,d,c,o,dt,df,ir,cH,cg,eG,aK,Int.add_zero,C,ot,A,fE,lP,F,<-m];refine⟨r,aa,i+1,aa,aa,?_,?_,?_,?_,?_,?_,?_⟩
    iterate 5 simp only[go_sem,f,g,j,d,c]
    .simp only[go_sem];rfl
    .rw[(aa:af x-(i+1)=r),yo aa,gX];exact p
  .have T:i=af x:=aa;simp(disch:=omega)only[go_sem,y4,OU,d,c,o,df];rw[T,nQ,qL,hU,dr aa]at b;refine kV (sQ y aa) b.at ⟨0,_,_,fj.2 rfl⟩ (.f1 (sn b.at jE ae)) ?_;simp only[go_sem];exact jy (by rw[nI al,am]) (eF _)
def fk(n:Nat):Nat:=if n=0 then 0 else n.log2+1
def R3(n:Nat):n<2^fk n:=by
 unfold fk;split
 .omega
 .exact Nat.lt_log2_self
def R2{n:Nat}(h:n≠0):2^(fk n-1)<=n:=by unfold fk;rw[ao h,vN];exact Nat.log2_self_le h
def Ee(h:a<2^d):fk a<=d:=by
 unfold fk;split
 .omega
 .rename_i b;exact(Nat.log2_lt b).2 h
def IT{x k:Nat}(h:2^k<=x):fk x=k+fk (x/2^k):=by
 have a:0<2^k:=gE ai;have b:x≠0:=aa;have c:x/2^k≠0:=by have:=(vO a).2 (aa:1*2^k<=x);omega
 unfold fk;rw[ao b,ao c];have e:=(Nat.log2_eq_iff c).1 rfl;have:x.log2=k+(x/2^k).log2:=by
  rw[Nat.log2_eq_iff b];refine⟨?_,?_⟩
  .rw[iB,dy];exact(vO a).1 e.1
  .rw[ng,iB,dy];exact(s8 a).1 e.2
 omega
def Kl:aW:=[0,1,2,2,3,3,3,3,4,4,4,4,4,4,4,4,5,5,5,5,5,5,5,5,5,5,5,5,5,5,5,5,6,6,6,6,6,6,6,6,6,6,6,6,6,6,6,6,6,6,6,6,6,6,6,6,6,6,6,6,6,6,6,6,7,7,7,7,7,7,7,7,7,7,7,7,7,7,7,7,7,7,7,7,7,7,7,7,7,7,7,7,7,7,7,7,7,7,7,7,7,7,7,7,7,7,7,7,7,7,7,7,7,7,7,7,7,7,7,7,7,7,7,7,7,7,7,7,8,8,8,8,8,8,8,8,8,8,8,8,8,8,8,8,8,8,8,8,8,8,8,8,8,8,8,8,8,8,8,8,8,8,8,8,8,8,8,8,8,8,8,8,8,8,8,8,8,8,8,8,8,8,8,8,8,8,8,8,8,8,8,8,8,8,8,8,8,8,8,8,8,8,8,8,8,8,8,8,8,8,8,8,8,8,8,8,8,8,8,8,8,8,8,8,8,8,8,8,8,8,8,8,8,8,8,8,8,8,8,8,8,8,8,8,8,8,8,8,8,8,8,8,8,8,8,8]
def Mg(t:aW):aS:=(.seq (.c7 [ex 19 (mv (rd 2)),ex 20 (mv (rd 0)),ex 21 (bQ .u8 (rd 20)),ex 22 (bY (kc (.str t)) (rd 21)),ex 23 (bQ .i64 (rd 22)),ex 24 (bi .add (rd 19) (rd 23)),ex 2 (bJ (rd 24))])
 .ret)
def WS:(pc 218 0)=Mg Kl:=acv
def amL(h:a<256):oa [.str Kl,.int .u8 (a:Int)]=some (.val (.int .u8 ((fk a:Nat):Int))):=by
 have b:∀a,a<256->Kl[a]? =some (iD (fk a))/\fk a<256:=by decide+kernel
 obtain⟨c,d⟩:=b a h;rw[u0 (c:=iD (fk a)) aa (by rw[cg];exact c)];rw[show(iD (fk a)).toNat=fk a from by rw[UInt8.toNat_ofNat'];exact jR d]
def R1(n:Nat)(m:n<18446744073709551616):bm 218 [aC n] (aj (fk n:Nat)):=by
 refine dM (.f1 .ii) (.int _ _) (bg aod ?_);have hl:fk n<=64:=Ee aa;have i:∀(x d:Nat) (F:Fr),x<256->fk n=d+fk x->rd 0 F=aC x->rd 2 F=aj d->bK (pc 218 0) (gC [.tmp 2] λv _=>v=aj (fk n:Nat)) F (ah.zero 5):=by intro x d F g e a b;have l:aE .u8 ((x:Nat):Int)=(x:Int):=H_ _ aa;rw[WS];simp(disch:=omega)only[go_sem,Mg,a,b,l,amL,aK];congr 1;omega
 have j:∀(x d:Nat) (F:Fr),x<65536->fk n=d+fk x->rd 0 F=aC x->rd 2 F=aj d->bK (pc 218 1) (gC [.tmp 2] λv _=>v=aj (fk n:Nat)) F (ah.zero 5):=by
  intro x d F g e a b;have c:ej 8 (h_ .u64)=8:=rfl;by_cases h:x<256
  .simp(disch:=omega)only[go_sem,NO,a,dt];refine i x d _ h e ?_ ?_
   iterate 2 simp only[go_sem,a,b]
  .have f:=IT (x:=x) (k:=8) aa;simp(disch:=omega)only[go_sem,NO,a,b,df,c,ot,aK];refine i (x/2^8) (d+8) _ aa aa ?_ ?_
   .simp only[go_sem]
   .simp only[go_sem];rfl
 have k:∀(x d:Nat) (F:Fr),x<4294967296->fk n=d+fk x->rd 0 F=aC x->rd 2 F=aj d->bK (pc 218 2) (gC [.tmp 2] λv _=>v=aj (fk n:Nat)) F (ah.zero 5):=by
  intro x d F g e a b;have c:ej 16 (h_ .u64)=16:=rfl;by_cases h:x<65536
  .simp(disch:=omega)only[go_sem,NP,a,dt];refine j x d _ h e ?_ ?_
   iterate 2 simp only[go_sem,a,b]
  .have f:=IT (x:=x) (k:=16) aa;simp(disch:=omega)only[go_sem,NP,a,b,df,c,ot,aK];refine j (x/2^16) (d+16) _ aa aa ?_ ?_
   .simp only[go_sem]
   .simp only[go_sem];rfl
 have c:ej 32 (h_ .u64)=32:=rfl;by_cases h:n<4294967296
 .simp(disch:=omega)only[go_sem,d218,NQ,dt];refine k n 0 _ h aa ?_ ?_
  .simp only[go_sem]
  .simp only[go_sem];rfl
 .have f:=IT (x:=n) (k:=32) aa;simp(disch:=omega)only[go_sem,d218,NQ,df,c,ot];refine k (n/2^32) 32 _ aa aa ?_ ?_
  .simp only[go_sem]
  .simp only[go_sem];rfl
def Bk(n:Nat)(a:n<18446744073709551616):bm 308 [aC n] (aj (64-fk n:Nat)):=by refine dM (.f1 .ii) (.int _ _) (bg aoU ?_);have hl:fk n<=64:=Ee aa;simp only[go_sem,d308,afh];refine use (R1 n a) ?_;simp(disch:=omega)only[go_sem,aK];congr 1;omega
def Bl{y:Nat}(b:y≠0)(g:y<18446744073709551616):64-fk y<=63/\9223372036854775808<=y*2^(64-fk y)/\y*2^(64-fk y)<18446744073709551616:=by
 have hl:fk y<=64:=Ee aa;have a:=R3 y;have c:=R2 b;have f:fk y≠0:=λe=>by rw[e]at a;omega
 have d:0<2^(64-fk y):=gE ai;refine⟨aa,?_,?_⟩
 .have:=ei (2^(64-fk y)) c;rw[<-iB,(aa:fk y-1+(64-fk y)=63)]at this;exact this
 .have:=qQ a d;rw[<-iB,(aa:fk y+(64-fk y)=64)]at this;exact this
theorem PW{r:Nat}(h:m8 a d m D O r)(b:(a*4294967296+d)/(m*4294967296+D)<O):m8 a d m D (O-1) (r+m):=by
 have e:O*m=(O-1)*m+m:=by
  cases O with
  |zero=>exact absurd b (nP _)
  |succ O=>grind
 exact⟨by have:=h.top;omega,aa⟩
def ai_(u d a b:Nat)(C:d<4294967296)(P:2147483648<=a/\a<4294967296)(a4:b<4294967296)(hu:u<a*4294967296+b)(F:Fr)(H:ah)(R:b5)(J:rd 15 F=aC (u/a:Nat))(I:rd 16 F=aC (u%a:Nat))(x:rd 9 F=aC a)(G:rd 10 F=aC b)(K:rd 13 F=aC d)
 (B:∀w,(∀t,t<67->t≠15->t≠16->rd t w=rd t F)->rd 15 w=aC (((u*4294967296+d)/(a*4294967296+b):Nat):Int)->R (.exit 0) w H):bK (.loop (pc 314 4)) R F H:=by
 have al:u<a*4294967298:=by
  obtain⟨f,c⟩:=P;have e:a*4294967298=a*4294967296+a*2:=dL a 4294967296 2;rw[e];clear B J I x G K C c e;generalize a*4294967296=z at*
  omega
 have Z:u*4294967296+d<(a*4294967296+b)*4294967296:=aa;have Y:=xd Z;obtain⟨Q,A⟩:∃Q,Q=(u*4294967296+d)/(a*4294967296+b):=⟨_,rfl⟩;rw[<-A]at Y;have O:=xd (m:=u) (n:=a) (k:=4294967298) al;have ad:u/a<=4294967297:=by
  generalize u/a=z at O
  omega
 refine b8 (λk i p=>∃r:Nat,(∀t,t<67->t≠15->t≠16->rd t i=rd t F)/\rd 15 i=aC k/\rd 16 i=aC r/\m8 u d a b k r/\r<4294967296/\k<=4294967297/\p=H) (u/a) ⟨u%a,λ_ _ _ _=>rfl,J,I,m8.start C aa,rZ (fD _ aa) P.2,ad,rfl⟩ ?_;rintro q i p ⟨r,j,k_,s,v,hr,hq,rfl⟩;have f9:=(j 9 ai ai ai).trans x;have L:=(j 10 ai ai ai).trans G;have M:=(j 13 ai ai ai).trans K;rw[afI];have V:aE .u64 ((r:Int)+(a:Int))=((r+a:Nat):Int):=by rw[cz _ aa];omega
 have ac:=v.ge;rw[<-A]at ac;have E:m8 u d a b (q-1) (r+a)->1<=q->∀l:Fr,(∀t,t<67->t≠15->t≠16->rd t l=rd t F)->rd 15 l=aC q->rd 16 l=aC r->bK (pc 314 3) (gy (qT (λk i X=>∃r:Nat,(∀t,t<67->t≠15->t≠16->rd t i=rd t F)/\rd 15 i=aC k/\rd 16 i=aC r/\m8 u d a b k r/\r<4294967296/\k<=4294967297/\X=p) q) R) l p:=by
  intro N O l y tJ uX;have e3:=(y 9 ai ai ai).trans x;have W:aE .u64 ((q:Int)-1)=((q-1:Nat):Int):=by rw[cz _ aa];omega
  by_cases hb:4294967296<=r+a
  .simp(disch:=omega)only[go_sem,OJ,OF,OE,OD,tJ,uX,e3,W,V,df];rw[Gf ai];have D:q-1=(u*4294967296+d)/(a*4294967296+b):=by refine N.done aa ?_;have f:(q-1)*b<=4294967296*4294967295:=iP aa aa;have c:4294967296*4294967296<=(r+a)*4294967296:=ei _ hb;omega
   refine B _ (λt f c g=>?_) ?_
   .simp(disch:=omega)only[cX];exact y t f c g
   .simp only[go_sem,D]
  .simp(disch:=omega)only[go_sem,OJ,OF,OE,OD,tJ,uX,e3,W,V,dt];refine⟨q-1,aa,r+a,λt f c g=>?_,?_,?_,N,aa,aa,rfl⟩
   .simp(disch:=omega)only[cX];exact y t f c g
   iterate 2 simp only[go_sem]
 by_cases a1:4294967296<=q
 .simp(disch:=omega)only[go_sem,k_,df];refine E (PW v (by rw[<-A];omega)) aa _ (λt f c g=>?_) ?_ ?_
  .simp(disch:=omega)only[cX];exact j t f c g
  iterate 2 simp only[go_sem,k_,s]
 .have hm:q*b<=4294967295*4294967295:=iP aa aa;have S:aE .u64 ((q:Int)*(b:Int))=((q*b:Nat):Int):=by rw[<-fF];exact cz _ aa
  have T:aE .u64 ((4294967296:Int)*(r:Int))=((r*4294967296:Nat):Int):=by rw[cz _ aa];omega
  have U:aE .u64 (((r*4294967296:Nat):Int)+(d:Int))=((r*4294967296+d:Nat):Int):=by rw[cz _ aa];omega
  by_cases o:r*4294967296+d<q*b
  .have ap:(((r*4294967296+d:Nat):Int))<((q*b:Nat):Int):=s3.2 o;have ae:1<=q:=by
    rcases uB q with e|e
    .rw[e,j4]at o;omega
    .exact e
   simp(disch:=omega)only[go_sem,k_,s,L,M,dt,S,T,U];refine E (v.down C aa o) ae _ (λt f c g=>?_) ?_ ?_
   .simp(disch:=omega)only[cX];exact j t f c g
   iterate 2 simp only[go_sem,k_,s]
  .have D:=v.done aa (k4 o);have aw:¬(((r*4294967296+d:Nat):Int))<((q*b:Nat):Int):=λh=>o (s3.1 h)
   simp(disch:=omega)only[go_sem,k_,s,L,M,dt,df,S,T,U];refine B _ (λt f c g=>?_) ?_
   .simp(disch:=omega)only[cX];exact j t f c g
   .simp only[go_sem,k_,D]
def ai'(u d a b:Nat)(C:d<4294967296)(P:2147483648<=a/\a<4294967296)(a4:b<4294967296)(hu:u<a*4294967296+b)(F:Fr)(H:ah)(R:b5)(J:rd 18 F=aC (u/a:Nat))(I:rd 16 F=aC (u%a:Nat))(x:rd 9 F=aC a)(G:rd 10 F=aC b)(K:rd 14 F=aC d)
 (B:∀w,(∀t,t<67->t≠18->t≠16->rd t w=rd t F)->rd 18 w=aC (((u*4294967296+d)/(a*4294967296+b):Nat):Int)->R (.exit 2) w H):bK (.loop (pc 314 9)) R F H:=by
 have al:u<a*4294967298:=by
  obtain⟨f,c⟩:=P;have e:a*4294967298=a*4294967296+a*2:=dL a 4294967296 2;rw[e];clear B J I x G K C c e;generalize a*4294967296=z at*
  omega
 have Z:u*4294967296+d<(a*4294967296+b)*4294967296:=aa;have Y:=xd Z;obtain⟨Q,A⟩:∃Q,Q=(u*4294967296+d)/(a*4294967296+b):=⟨_,rfl⟩;rw[<-A]at Y;have O:=xd (m:=u) (n:=a) (k:=4294967298) al;have ad:u/a<=4294967297:=by
  generalize u/a=z at O
  omega
 refine b8 (λk i p=>∃r:Nat,(∀t,t<67->t≠18->t≠16->rd t i=rd t F)/\rd 18 i=aC k/\rd 16 i=aC r/\m8 u d a b k r/\r<4294967296/\k<=4294967297/\p=H) (u/a) ⟨u%a,λ_ _ _ _=>rfl,J,I,m8.start C aa,rZ (fD _ aa) P.2,ad,rfl⟩ ?_;rintro q i p ⟨r,j,k_,s,v,hr,hq,rfl⟩;have f9:=(j 9 ai ai ai).trans x;have L:=(j 10 ai ai ai).trans G;have M:=(j 14 ai ai ai).trans K;rw[afJ];have V:aE .u64 ((r:Int)+(a:Int))=((r+a:Nat):Int):=by rw[cz _ aa];omega
 have ac:=v.ge;rw[<-A]at ac;have E:m8 u d a b (q-1) (r+a)->1<=q->∀l:Fr,(∀t,t<67->t≠18->t≠16->rd t l=rd t F)->rd 18 l=aC q->rd 16 l=aC r->bK (pc 314 8) (gy (qT (λk i X=>∃r:Nat,(∀t,t<67->t≠18->t≠16->rd t i=rd t F)/\rd 18 i=aC k/\rd 16 i=aC r/\m8 u d a b k r/\r<4294967296/\k<=4294967297/\X=p) q) R) l p:=by
  intro N O l y tJ uX;have e3:=(y 9 ai ai ai).trans x;have W:aE .u64 ((q:Int)-1)=((q-1:Nat):Int):=by rw[cz _ aa];omega
  by_cases hb:4294967296<=r+a
  .simp(disch:=omega)only[go_sem,ON,OM,OL,OK,tJ,uX,e3,W,V,df];rw[Gf ai];have D:q-1=(u*4294967296+d)/(a*4294967296+b):=by refine N.done aa ?_;have f:(q-1)*b<=4294967296*4294967295:=iP aa aa;have c:4294967296*4294967296<=(r+a)*4294967296:=ei _ hb;omega
   refine B _ (λt f c g=>?_) ?_
   .simp(disch:=omega)only[cX];exact y t f c g
   .simp only[go_sem,D]
  .simp(disch:=omega)only[go_sem,ON,OM,OL,OK,tJ,uX,e3,W,V,dt];refine⟨q-1,aa,r+a,λt f c g=>?_,?_,?_,N,aa,aa,rfl⟩
   .simp(disch:=omega)only[cX];exact y t f c g
   iterate 2 simp only[go_sem]
 by_cases a1:4294967296<=q
 .simp(disch:=omega)only[go_sem,k_,df];refine E (PW v (by rw[<-A];omega)) aa _ (λt f c g=>?_) ?_ ?_
  .simp(disch:=omega)only[cX];exact j t f c g
  iterate 2 simp only[go_sem,k_,s]
 .have hm:q*b<=4294967295*4294967295:=iP aa aa;have S:aE .u64 ((q:Int)*(b:Int))=((q*b:Nat):Int):=by rw[<-fF];exact cz _ aa
  have T:aE .u64 ((4294967296:Int)*(r:Int))=((r*4294967296:Nat):Int):=by rw[cz _ aa];omega
  have U:aE .u64 (((r*4294967296:Nat):Int)+(d:Int))=((r*4294967296+d:Nat):Int):=by rw[cz _ aa];omega
  by_cases o:r*4294967296+d<q*b
  .have ap:(((r*4294967296+d:Nat):Int))<((q*b:Nat):Int):=s3.2 o;have ae:1<=q:=by
    rcases uB q with e|e
    .rw[e,j4]at o;omega
    .exact e
   simp(disch:=omega)only[go_sem,k_,s,L,M,dt,S,T,U];refine E (v.down C aa o) ae _ (λt f c g=>?_) ?_ ?_
   .simp(disch:=omega)only[cX];exact j t f c g
   iterate 2 simp only[go_sem,k_,s]
  .have D:=v.done aa (k4 o);have aw:¬(((r*4294967296+d:Nat):Int))<((q*b:Nat):Int):=λh=>o (s3.1 h)
   simp(disch:=omega)only[go_sem,k_,s,L,M,dt,df,S,T,U];refine B _ (λt f c g=>?_) ?_
   .simp(disch:=omega)only[cX];exact j t f c g
   .simp only[go_sem,k_,D]
theorem ai6{N:Nat}(b_:N=(d*a+m)*a+D)(c:0<O):
 N/O=(d*a+m)/O*a+((d*a+m)%O*a+D)/O/\N%O=((d*a+m)%O*a+D)%O:=by
 obtain⟨M,b⟩:∃M,M=d*a+m:=⟨_,rfl⟩;rw[<-b]at b_⊢;have e:=kj M O;have h:N=(M%O*a+D)+O*(M/O*a):=by
  have f:M*a=O*(M/O*a)+M%O*a:=by grind
  omega
 rw[h,Nat.add_mul_div_left _ _ c,Nat.add_mul_mod_self_left];exact⟨i_ _ _,rfl⟩
def Dt(hi lo y:Nat)(hh:hi<y)(K:lo<18446744073709551616)(B:y<18446744073709551616):bm 314 [aC hi,aC lo,aC y] (.aH [aC (((hi*18446744073709551616+lo)/y:Nat):Int),aC (((hi*18446744073709551616+lo)%y:Nat):Int)]):=by
 by_cases h0:hi=0
 .subst h0;have:=aiW lo y K ⟨aa,B⟩;rw[j4,eW];exact this
 refine dM (.f3 .ii .ii .ii) (.aH (.f2 .ii .ii)) (bg RH ?_);obtain⟨V,a8,a9⟩:=Bl (y:=y) aa B;have M:=Bk y B;obtain⟨s,U⟩:∃s,s=64-fk y:=⟨_,rfl⟩;rw[<-U]at V a8 a9 M;clear U;have E:0<2^s:=gE ai;have dq:2^s<=2^63:=iI ai V;have dp:(2:Nat)^63=9223372036854775808:=ai;have bi:((y:Nat):Int)*((2^s:Nat):Int)=((y*2^s:Nat):Int):=by rw[fF]
 have bd:((hi:Nat):Int)*((2^s:Nat):Int)=((hi*2^s:Nat):Int):=by rw[fF]
 have be:((lo:Nat):Int)*((2^s:Nat):Int)=((lo*2^s:Nat):Int):=by rw[fF]
 have W:=TN (w:=lo) (aa:s<=64);have X:=TI (s:=s) K;have q:hi*2^s|||lo*2^s/18446744073709551616=hi*2^s+lo*2^s/18446744073709551616:=by rw[<-Nat.shiftLeft_eq hi s,<-Nat.shiftLeft_add_eq_or_of_lt X]
 have dT:hi*2^s+2^s<=y*2^s:=by have:=ei (2^s) hh;rw[qR]at this;exact this
 have J:(hi*18446744073709551616+lo)*2^s/(y*2^s)=(hi*18446744073709551616+lo)/y:=Nat.mul_div_mul_right _ _ E;have N:(hi*18446744073709551616+lo)*2^s%(y*2^s)=(hi*18446744073709551616+lo)%y*2^s:=uD _ _ _;have F:(hi*18446744073709551616+lo)*2^s=hi*2^s*18446744073709551616+lo*2^s:=by rw[fT,xk]
 rw[F]at J N;clear F;have O:ej s (h_ .u64)=s:=lM (aa:s<=64);have bc:ej (64-s) (h_ .u64)=64-s:=lM (aa:64-s<=64);have a5:aE .u64 ((64:Int)-(s:Int))=((64-s:Nat):Int):=by rw[cz _ aa];omega
 have ba:aE .u64 ((s:Nat):Int)=(s:Int):=cz _ aa;generalize y*2^s=Y at*
 generalize lo*2^s=L at*
 generalize hi*2^s=P at*
 obtain⟨t,Z⟩:∃t,t=L/18446744073709551616:=⟨_,rfl⟩;obtain⟨l,hl⟩:∃l,l=L%18446744073709551616:=⟨_,rfl⟩;have ds:L=t*18446744073709551616+l:=aa;rw[<-Z]at W q X;have bb:l<18446744073709551616:=aa;have b':aE .u64 ((L:Nat):Int)=(l:Int):=by rw[hN];omega
 clear Z hl;obtain⟨u,hu⟩:∃u,u=P+t:=⟨_,rfl⟩;rw[<-hu]at q;have d1:u<Y:=aa;have b_:P*18446744073709551616+L=(u*4294967296+l/4294967296)*4294967296+l%4294967296:=aa;obtain⟨g,j⟩:=ai6 b_ (aa:0<Y);rw[J]at g;rw[N]at j;obtain⟨a,e1⟩:∃v,v=Y/4294967296:=⟨_,rfl⟩;obtain⟨i,e0⟩:∃v,v=Y%4294967296:=⟨_,rfl⟩;have I:Y=a*4294967296+i:=aa;have ac:2147483648<=a/\a<4294967296:=aa;have ab:i<4294967296:=aa;have d6:¬((y:Nat):Int)=0:=aa;have d5:¬((hi:Nat):Int)=0:=aa;have d0:((hi:Nat):Int)<(y:Int):=aa;have R:=zI (x:=P) (y:=t) ⟨aa,aa⟩;rw[q]at R;simp(disch:=assumption)only[go_sem,d314,OI,OH,OG,afH,df,dt];refine use M ?_;have a':aE .u64 ((Y:Nat):Int)=(Y:Int):=cz _ aa;have a7:aE .u64 ((P:Nat):Int)=(P:Int):=cz _ aa;have dC:=kj u a;have bs:u/a*a<=u:=yH _ _;have bj:u/a<18446744073709551616:=fu (js _ _) aa;have da:aE .u64 ((u/a:Nat):Int)=((u/a:Nat):Int):=cz _ ⟨w9 _,s3.2 bj⟩;have b0:u/a*a<18446744073709551616:=aa;have c2:aE .u64 (((u/a:Nat):Int)*(a:Int))=((u/a*a:Nat):Int):=by rw[<-fF];exact cz _ ⟨w9 _,s3.2 b0⟩
 have ws:aE .u64 (((u:Nat):Int)-((u/a*a:Nat):Int))=((u%a:Nat):Int):=by
  rw[dy]at bs⊢;generalize a*(u/a)=z at*
  generalize u%a=dl at*
  rw[cz _ aa];omega
 have d2:¬((a:Nat):Int)=0:=aa;have C:=CS (n:=Y) aa;rw[<-e0]at C;have al:=CS bb;have c0:ej 32 (h_ .u64)=32:=rfl;have ar:∀n:Nat,n/2^32=n/4294967296:=λn=>aa
 simp(disch:=assumption)only[go_sem,afG,afF,afE,afD,afC,afB,afA,afz,afy,afx,ba,O,bi,a',c0,ar,<-e1,C,bd,a7,a5,bc,ot,W,R,be,b',al,j5,t_,da,c2,ws];refine ai_ u (l/4294967296) a i aa ac ab aa _ _ _ ?_ ?_ ?_ ?_ ?_ ?_
 iterate 5 simp only[go_sem]
 intro d b tJ;rw[<-I]at tJ;have D:rd 2 d=aC Y:=(b 2 ai ai ai).trans eJ;have hJ:rd 8 d=aC s:=(b 8 ai ai ai).trans eJ;have e3:rd 9 d=aC a:=(b 9 ai ai ai).trans eJ;have aw:rd 10 d=aC i:=(b 10 ai ai ai).trans eJ;have qh:rd 11 d=aC u:=(b 11 ai ai ai).trans eJ;have uW:rd 13 d=aC (l/4294967296:Nat):=(b 13 ai ai ai).trans eJ;have tI:rd 14 d=aC (l%4294967296:Nat):=(b 14 ai ai ai).trans eJ;clear b;obtain⟨c,H⟩:∃Q,Q=(u*4294967296+l/4294967296)/Y:=⟨_,rfl⟩;obtain⟨w,r⟩:∃w,w=(u*4294967296+l/4294967296)%Y:=⟨_,rfl⟩;have m:=kj (u*4294967296+l/4294967296) Y;have d3:w<Y:=by rw[r];exact fD _ aa
 rw[<-H]at tJ g m;rw[<-r]at g j m;clear H r;have dv:c<4294967296:=by
  refine uC λh=>?_
  have:=eN Y h;generalize Y*c=z at*
  omega
 have k1:aE .u64 ((u:Int)*4294967296)=((u*4294967296%18446744073709551616:Nat):Int):=by rw[hN];omega
 have k2:aE .u64 (((u*4294967296%18446744073709551616:Nat):Int)+((l/4294967296:Nat):Int))=(((u*4294967296+l/4294967296)%18446744073709551616:Nat):Int):=by rw[hN];omega
 obtain⟨p,S⟩:∃p,p=Y*c:=⟨_,rfl⟩;rw[<-S]at m;have bX:aE .u64 ((c:Int)*(Y:Int))=((p%18446744073709551616:Nat):Int):=by rw[<-fF,dy,<-S,hN];omega
 have ce:aE .u64 ((((u*4294967296+l/4294967296)%18446744073709551616:Nat):Int)-((p%18446744073709551616:Nat):Int))=(w:Int):=by rw[hN];omega
 have dE:=kj w a;have bv:w/a*a<=w:=yH _ _;have bo:w/a<18446744073709551616:=fu (js _ _) aa;have db:aE .u64 ((w/a:Nat):Int)=((w/a:Nat):Int):=cz _ ⟨w9 _,s3.2 bo⟩;have b1:w/a*a<18446744073709551616:=aa;have c':aE .u64 (((w/a:Nat):Int)*(a:Int))=((w/a*a:Nat):Int):=by rw[<-fF];exact cz _ ⟨w9 _,s3.2 b1⟩
 have dk:aE .u64 (((w:Nat):Int)-((w/a*a:Nat):Int))=((w%a:Nat):Int):=by
  rw[dy]at bv⊢;generalize a*(w/a)=z at*
  generalize w%a=dl at*
  rw[cz _ aa];omega
 rw[gb];simp(disch:=assumption)only[go_sem,afw,afv,afu,aft,D,e3,qh,uW,tJ,k1,k2,bX,ce,j5,t_,db,c',dk];refine ai' w (l%4294967296) a i aa ac ab aa _ _ _ ?_ ?_ ?_ ?_ ?_ ?_
 iterate 5 simp only[go_sem,e3,aw,tI]
 intro f b k;rw[<-I]at k;have h2:rd 2 f=aC Y:=(b 2 ai ai ai).trans (by simp only[go_sem,D]);have h8:rd 8 f=aC s:=(b 8 ai ai ai).trans (by simp only[go_sem,hJ]);have a1:rd 14 f=aC (l%4294967296:Nat):=(b 14 ai ai ai).trans (by simp only[go_sem,tI]);have a2:rd 15 f=aC c:=(b 15 ai ai ai).trans (by simp only[go_sem,tJ]);have a3:rd 17 f=aC w:=(b 17 ai ai ai).trans eJ;clear b;obtain⟨e,G⟩:∃Q,Q=(w*4294967296+l%4294967296)/Y:=⟨_,rfl⟩;obtain⟨x,A⟩:∃w',w'=(w*4294967296+l%4294967296)%Y:=⟨_,rfl⟩;have o:=kj (w*4294967296+l%4294967296) Y;have d4:x<Y:=by rw[A];exact fD _ aa
 rw[<-G]at k g o;rw[<-A]at j o;clear G A;have du:e<4294967296:=by
  refine uC λh=>?_
  have:=eN Y h;generalize Y*e=z at*
  omega
 have m1:aE .u64 ((w:Int)*4294967296)=((w*4294967296%18446744073709551616:Nat):Int):=by rw[hN];omega
 have m2:aE .u64 (((w*4294967296%18446744073709551616:Nat):Int)+((l%4294967296:Nat):Int))=(((w*4294967296+l%4294967296)%18446744073709551616:Nat):Int):=by rw[hN];omega
 obtain⟨p2,T⟩:∃p,p=Y*e:=⟨_,rfl⟩;rw[<-T]at o;have ci:aE .u64 ((e:Int)*(Y:Int))=((p2%18446744073709551616:Nat):Int):=by rw[<-fF,dy,<-T,hN];omega
 have co:aE .u64 ((((w*4294967296+l%4294967296)%18446744073709551616:Nat):Int)-((p2%18446744073709551616:Nat):Int))=(x:Int):=by rw[hN];omega
 have cp:aE .u64 ((c:Int)*4294967296)=((c*4294967296:Nat):Int):=by rw[cz _ aa];omega
 have cs:aE .u64 (((c*4294967296:Nat):Int)+(e:Int))=((c*4294967296+e:Nat):Int):=by rw[cz _ aa];omega
 have ca:x/2^s=(hi*18446744073709551616+lo)%y:=by rw[<-j,Nat.mul_div_cancel _ E]
 rw[gb];simp(disch:=assumption)only[go_sem,afs,h2,h8,a1,a2,a3,k,O,ot,m1,m2,ci,co,cp,cs,ca,<-g]
def KG(b:0<m)(c:a<m)(e:d<18446744073709551616):(a*18446744073709551616+d)/m<18446744073709551616:=by rw[s8 b];have:(a+1)*18446744073709551616<=m*18446744073709551616:=ei _ c;rw[dy m]at this;omega
def KF{Q V:Nat}(b:m*D+O=a*18446744073709551616+d)(c:Q*m+a=V):(D+18446744073709551616*Q)*m+O=d+18446744073709551616*V:=by rw[<-c,fT,dx,dL];rw[dy m]at b;omega
def atg(a:av)(d:Nat)(s:W.aG a)(f:0<d/\d<18446744073709551616)(x:af a<4294967295):bm 255 [bx a,aC d] (aC (W.val a%d:Nat)):=by
 refine dM (.f2 (eF _) .ii) (.int _ _) (bg aoC ?_);simp(disch:=omega)only[go_sem,d255,ad4,ad3,aK];refine b8 (λk b p=>∃(j r:Nat) (Q:Nat),rd 0 b=bx a/\rd 1 b=aC d/\rd 5 b=aC r/\rd 6 b=aj ((j:Int)-1)/\k=j/\j<=af a/\r<d/\Q*d+r=W.val (a.drop j)) (af a) ⟨af a,0,0,?_,?_,?_,?_,rfl,aJ _,f.1,by simp[W.val]⟩ ?_
 iterate 2 simp only[go_sem]
 .simp only[go_sem];rfl
 .simp only[go_sem]
 rintro j b p ⟨_,r,Q,h,l,m,c,rfl,w,o,g⟩;rw[ad1];cases j with
 |zero=>simp(disch:=omega)only[go_sem,ad2,m,c,dt];rw[List.drop_zero]at g;rw[<-g,dy,Nat.mul_add_mod,jR o]
 |succ i=>
  have t:i<af a:=aa;have u:=s.getD i;have hi:(((i+1:Nat):Int)-1).toNat=i:=aa;have n:=fD (r*18446744073709551616+a.getD i 0) f.1;have e:=kj (r*18446744073709551616+a.getD i 0) d;simp(disch:=omega)only[go_sem,ad0,h,l,m,c,df,ir,hi,eG];refine use (Dt r (a.getD i 0) d o u f.2) ?_;simp(disch:=omega)only[go_sem,adZ,c,aK];generalize(r*18446744073709551616+a.getD i 0)/d=q at e
  generalize(r*18446744073709551616+a.getD i 0)%d=v at n e⊢
  refine⟨i,aa,i,v,q+18446744073709551616*Q,?_,?_,?_,?_,rfl,aa,n,?_⟩
  iterate 3 simp only[go_sem,h,l]
  .simp only[go_sem];congr 1;omega
  .rw[W.wY t,KF e g]
def J6(i v:Nat)(a:av):(aZ (i+1) 0++a).set i v=aZ i 0++v::a:=by rw[List.replicate_succ',gX,List.set_append_right _ _ aI];simp
def ai2(a:av)(d:Nat)(z:W.aG a)(e:0<d/\d<18446744073709551616)(F:af a<4294967295):bm 364 [bx a,aC d] (.aH [bx (az (W.val a/d)),aC (W.val a%d:Nat)]):=by
 refine gR (.f2 (eF _) .ii) (bg ao5 ?_);simp(disch:=omega)only[go_sem,d364,agD,agC,agB,aK,iG,qv];refine b8 (λk c p=>∃(j r:Nat) (b:av),rd 0 c=bx a/\rd 1 c=aC d/\rd 6 c=.slice 5 0 (af a) (.known (af a))/\rd 7 c=aC r/\rd 8 c=aj ((j:Int)-1)/\k=j/\j<=af a/\W.aG b/\af b=af a-j/\r<d/\W.val b*d+r=W.val (a.drop j)/\p.get 5=an (aQ (aZ j 0++b)) 0) (af a) ⟨af a,0,[],?_,?_,?_,?_,?_,rfl,aJ _,W.aG.nil,aI,e.1,by simp[W.val],?_⟩ ?_
 iterate 3 simp only[go_sem]
 .simp only[go_sem];rfl
 .simp only[go_sem]
 .simp only[go_sem];simp
 rintro j c p ⟨_,r,b,s,t,h,u,l,rfl,D,y,hl,g,o,f⟩;rw[agz];cases j with
 |zero=>simp(disch:=omega)only[go_sem,agA,h,l,dt];have B:af b=af a:=aa;rw[qL,fS]at f;refine kV (sQ b aa) f ⟨0,_,_,fj.2 rfl⟩ (.f1 (sn f jE B)) ?_;simp(disch:=omega)only[go_sem,u];rw[List.drop_zero]at o;refine jy ?_ (.aH (.f2 (eF _) .ii));rw[nI y,<-o,dy (W.val b) d,Nat.mul_add_mod,jR g,Nat.mul_add_div e.1,mw g,dG]
 |succ i=>
  have A:i<af a:=aa;have x:=z.getD i;have hi:(((i+1:Nat):Int)-1).toNat=i:=aa;have w:=KG e.1 g x;have v:=fD (r*18446744073709551616+a.getD i 0) e.1;have m:=kj (r*18446744073709551616+a.getD i 0) d;have n:=Dt r (a.getD i 0) d g x e.2;generalize(r*18446744073709551616+a.getD i 0)/d=q at w m n
  generalize(r*18446744073709551616+a.getD i 0)%d=C at v m n
  have E:af (aQ (aZ (i+1) 0++b))=af a:=by rw[fo];simp;omega
  simp(disch:=omega)only[go_sem,agy,s,t,h,u,l,df,ir,hi,eG];refine use n ?_;simp(disch:=omega)only[go_sem,agx,l,cH,hi,f,fE,lP,J6,aK];refine⟨i,aa,i,C,q::b,?_,?_,?_,?_,?_,rfl,aa,.mk w y,by simp;omega,v,?_,?_⟩
  iterate 4 simp only[go_sem,s,t,h]
  .simp only[go_sem];congr 1;omega
  .rw[W.wY A];exact KF m o
  .rw[ah.aT,ay rfl]
def auJ{P w V X Y:Nat}(h:X+P*d=V+Y*w)(b:O+18446744073709551616*m=a+D*w+d):X+P*O+P*18446744073709551616*m=V+P*a+(Y+P*D)*w:=by have e:=congrArg (P* ·) b;simp only[dL,<-dx]at e;rw[fT];omega
def au'(e a f g:av)(w n:Nat)(X:W.aG a)(hx:W.aG g)(K:w<18446744073709551616)(Z:af g=n)(a1:af a=n)(ls:af (e++a++f)<1000000)(o b:Nat)(ho:af e=o)(c:Cap)(H:ah)(Q:H.get b=an (aQ (e++a++f)) 0):
 dm 366 [.slice b o n c,bx g,aC w] H λv j=>∃ds k,v=aC (k:Nat)/\k<18446744073709551616/\af ds=n/\W.aG ds/\W.val a+18446744073709551616^n*k=W.val ds+W.val g*w/\eZ H j b (aQ (e++ds++f)):=by
 refine bg ao7 ?_;simp(disch:=omega)only[go_sem,d366,agM,agL]
 refine b8 (λk F j=>∃(ds:av) (h:Nat),k=n-af ds/\af ds<=n/\rd 0 F=.slice b o n c/\rd 1 F=bx g/\rd 2 F=aC w/\rd 7 F=aC h/\rd 14 F=bx g/\rd 15 F=aj n/\rd 16 F=aj (af ds)/\h<18446744073709551616/\W.aG ds/\
  W.val (a.take (af ds))+18446744073709551616^(af ds)*h=W.val ds+W.val (g.take (af ds))*w/\eZ H j b (aQ (e++ds++(a.drop (af ds)++f)))) n ⟨[],0,rfl,cj _,?_,?_,?_,?_,?_,?_,?_,aa,W.aG.nil,by simp[W.val],?_⟩ ?_
 iterate 3 simp only[go_sem]
 .simp only[go_sem];rfl
 iterate 2 simp only[go_sem,Z]
 .simp only[go_sem];rfl
 .have:=eZ.refl Q;simpa using this
 rintro k F j ⟨ds,h,rfl,hd,D,O,G,I,E,u,x,R,M,A,i⟩;rw[agJ];simp only[bw]at ls;by_cases hi:af ds<n
 .have L:=hx.getD (af ds);have Y:=X.getD (af ds);have S:=tC (l:=a) (i:=af ds) aa;rw[S,gv]at i;have T:=i.at;have q:af (e++ds)=o+af ds:=by rw[bw,ho]
  have aw:o+af ds<af (aQ (e++ds++a.getD (af ds) 0::(a.drop (af ds+1)++f))):=by rw[fo,bw,q];simp
  have a0:o+af ds<af (e++ds++a.getD (af ds) 0::(a.drop (af ds+1)++f)):=by rw[bw,q];simp
  have U:=so (es:=a.drop (af ds+1)++f) (e:=a.getD (af ds) 0) q;have hp:=zG L K;obtain⟨p,C⟩:∃p,p=g.getD (af ds) 0*w:=⟨_,rfl⟩;have J:=Bo _ _ L K;rw[<-C]at hp J;obtain⟨d,N⟩:∃s,s=p%18446744073709551616+h:=⟨_,rfl⟩;obtain⟨B,l⟩:∃s,s=(a.getD (af ds) 0+18446744073709551616-d%18446744073709551616-0)%18446744073709551616:=⟨_,rfl⟩;obtain⟨z,m⟩:∃z,z=(if d%18446744073709551616+0<=a.getD (af ds) 0 then 0 else 1:Nat):=⟨_,rfl⟩;have P:=sub_one Y (show d%18446744073709551616<18446744073709551616 from fD _ ai) (cj 1);rw[<-l,<-m]at P;have r:=xx (a:=p%18446744073709551616) (b:=h) (c:=0) aa;rw[dG,<-N]at r;have t:=E_ (a:=a.getD (af ds) 0) (b:=d%18446744073709551616) (c:=0) aa;rw[<-l,<-m]at t;have a2:z<=1:=by rw[m];split<;>omega
  have ad:B<18446744073709551616:=by rw[l];exact fD _ ai
  clear l m;have V:p/18446744073709551616+d/18446744073709551616+z<18446744073709551616:=aa;rw[kh]at r t;have w1:aE .u64 (((p/18446744073709551616:Nat):Int)+((d/18446744073709551616:Nat):Int))=((p/18446744073709551616+d/18446744073709551616:Nat):Int):=by rw[cz _ aa];omega
  have w2:aE .u64 (((p/18446744073709551616+d/18446744073709551616:Nat):Int)+((z:Nat):Int))=((p/18446744073709551616+d/18446744073709551616+z:Nat):Int):=by rw[cz _ aa];omega
  simp(disch:=omega)only[go_sem,O5,agI,G,E,u,x,dt,ir,cg,eG];refine use J ?_;simp(disch:=omega)only[go_sem,agH,D,I,x,cH,cg,T,eG,U,r,t,w1,w2,fE,lP,nH q,aK];refine⟨n-(af ds+1),aa,ds++[B],p/18446744073709551616+d/18446744073709551616+z,aI,by simp;omega,?_,?_,?_,?_,?_,?_,?_,V,M.app (.mk ad W.aG.nil),?_,?_⟩
  iterate 6 simp only[go_sem,D,O,G,E,u]
  .simp only[go_sem,bw,iA];rfl
  .rw[W.gi];simp only[bw,iA,dX,W.val,gj,dG];rw[mO aa,mO aa];exact auJ A (by rw[<-C];omega)
  .have:=i.set (aQ (e++(ds++[B])++(a.drop (af ds+1)++f)));simpa using this
 .have y:af ds=n:=aa;simp(disch:=omega)only[go_sem,O5,agK,I,u,x,df];rw[y,dr aa,dr aa]at A;rw[y,mR aa,fS]at i;exact⟨ds,h,rfl,R,y,M,A,i⟩
theorem Iu{u post:av}(b:af g=a)(c:af u=m)(hi:d<m):(g++u++post).getD (a+d) 0=u.getD d 0:=by grind
theorem apU(d:af g=a+1)(c:2<=a):W.val g=((g.getD a 0*18446744073709551616+g.getD (a-1) 0)*18446744073709551616+g.getD (a-2) 0)*18446744073709551616^(a-2)+W.val (g.take (a-2)):=by
 have h:=W.x1 (l:=g) (n:=a+1) aa aa (λp b=>by grind)
 have e:=mO (l:=g) (i:=a-2) aa;rw[(aa:a-2+1=a-1)]at e;rw[(aa:a+1-1=a),(aa:a+1-2=a-1),e]at h;have b:(18446744073709551616:Nat)^(a-1)=18446744073709551616*18446744073709551616^(a-2):=by rw[(aa:a-1=a-2+1),dX,dy]
 grind
theorem ajM{K w c e j W U V:Nat}(p:V=(m*K+D)*W+O)(o:U=((w*K+c)*K+e)*W+j)(r:O<W)(q:D<K)(l:K<=2*m+2)(i:m<=w)(h:d=K-1)(n:2<=K):(d-1)*V<=U:=by
 have g:V<=(m+1)*K*W:=by
  have a:m*K+D+1<=(m+1)*K:=by rw[fT,kn];omega
  have b:=ei W a;rw[fT (m*K+D),kn]at b;omega
 have f:m*K*K*W<=U:=by have a:m*K<=w*K+c:=c5 (ei K i) (qP _ _);have b:m*K*K<=(w*K+c)*K+e:=c5 (ei K a) (qP _ _);exact c5 (ei W b) aa
 refine c5 (eN _ g) (c5 ?_ f);rw[<-dx,<-dx];refine ei W (ei K ?_);subst h;obtain⟨k,rfl⟩:∃k,K=k+2:=⟨K-2,aa⟩
 grind
def ajK{w e f k W U V:Nat}(n:V=(d*O+m)*W+D)(l:U=((w*O+e)*O+f)*W+k)(h:U<V*O)(p:D<W)(o:m<O):w<=d:=by
 have i:V<(d+1)*(O*W):=by
  have a:d*O+m+1<=(d+1)*O:=by rw[fT,kn];omega
  have b:=ei W a;rw[fT (d*O+m),kn,dx]at b;omega
 have g:w*(O*W)*O<=U:=by have a:w*O<=w*O+e:=qP _ _;have b:w*O*O<=(w*O+e)*O+f:=c5 (ei O a) (qP _ _);have c:=ei W b;rw[show w*(O*W)*O=w*O*O*W by ac_rfl];omega
 have j:w*(O*W)*O<(d+1)*(O*W)*O:=fu g (fy h (ei O (ja i)));have:=vP (vP j);omega
theorem ajJ(N u l dv:av)(n:Nat)(S:W.aG u)(hd:W.aG dv)(hn:af dv=n)(T:af u=n+1)(h2:2<=n)(ls:af (N++u++l)<1000000)(dp:n<1000000)(dE:9223372036854775808<=dv.getD (n-1) 0)(hlt:W.val u<W.val dv*18446744073709551616)(o b:Nat)(ho:af N=o)(c:Cap)(H:ah)(R:H.get b=an (aQ (N++u++l)) 0):
 dm 365 [.slice b o (n+1) c,bx dv] H λv y=>∃h,v=aC (h:Nat)/\h<18446744073709551616/\W.val u/W.val dv<=h/\(h-1)*W.val dv<=W.val u/\y=H:=by
 have A:=W.x1 (l:=dv) (n:=n) h2 aa (λp hp=>by grind);have j:=apU T h2;have X:W.val (dv.take (n-2))<18446744073709551616^(n-2):=by have:=W.iz (hd.take (n-2));rw[jq aa]at this;exact this
 have ba:W.val (u.take (n-2))<18446744073709551616^(n-2):=by have:=W.iz (S.take (n-2));rw[jq aa]at this;exact this
 have b1:=hd.getD (n-1);have G:=hd.getD (n-2);have c0:=S.getD n;have ar:=S.getD (n-1);have b0:=S.getD (n-2);have dk:af (N++u++l)=o+(n+1)+af l:=b4;have gn:=Iu (post:=l) ho T (aa:n<n+1);have DU:=Iu (post:=l) ho T (aa:n-1<n+1);have a3:=Iu (post:=l) ho T (aa:n-2<n+1);have i1:((n:Int)-1).toNat=n-1:=aa;have Y:((n:Int)-2).toNat=n-2:=aa;generalize N++u++l=L at*
 obtain⟨V,b'⟩:∃V,V=W.val dv:=⟨_,rfl⟩;obtain⟨U,b2⟩:∃V,V=W.val u:=⟨_,rfl⟩;rw[<-b']at A hlt⊢;rw[<-b2]at j hlt⊢;generalize a6:dv.getD (n-1) 0=a at*
 generalize a7:dv.getD (n-2) 0=m at*
 generalize W.val (dv.take (n-2))=d2 at*
 generalize W.val (u.take (n-2))=d1 at*
 generalize u.getD n 0=w at*
 generalize u.getD (n-1) 0=u1 at*
 generalize u.getD (n-2) 0=Z at*
 generalize hW:18446744073709551616^(n-2)=cs at*
 have hw:=ajK A j hlt X G;have da:0<V:=by
  rcases uB V with e|e
  .rw[e]at hlt;omega
  .exact e
 have ci:U/V<18446744073709551616:=xd hlt;have am:U/V*V<=U:=yH _ _;obtain⟨q,eq⟩:∃q,q=U/V:=⟨_,rfl⟩;rw[<-eq]at ci am⊢;refine bg ao6 ?_;by_cases K:a<=w
 .simp(disch:=omega)only[go_sem,d365,O0,O4,O3,hn,aK,ir,cH,i1,Y,eG,cg,R,gn,a6,a7,df];exact⟨trivial,18446744073709551615,rfl,aa,aa,ajM A j X G aa K rfl aa,trivial⟩
 .have bb:w<a:=aa;simp(disch:=omega)only[go_sem,d365,O0,O4,O3,agG,hn,aK,ir,cH,i1,Y,eG,cg,R,gn,DU,a6,a7,dt];refine⟨trivial,?_⟩;refine use (Dt w u1 a bb ar b1) ?_;obtain⟨B,a'⟩:∃t,t=w*18446744073709551616+u1:=⟨_,rfl⟩;rw[<-a']at j⊢;have hl:=W.D9 A j ba b0 aa am;have hm:=fD B (aa:0<a);have a5:=kj B a;rw[dy]at a5;have ce:B/a<18446744073709551616:=by rw[a'];exact KG aa bb ar
  simp(disch:=omega)only[go_sem,agF];refine b8 (λk s y=>∃r:Nat,rd 0 s=.slice b o (n+1) c/\rd 5 s=aj n/\rd 6 s=aC a/\rd 7 s=aC m/\rd 8 s=aC k/\rd 9 s=aC r/\B=k*a+r/\q<=k/\r<18446744073709551616/\k<18446744073709551616/\y=H) (B/a) ⟨B%a,?_,?_,?_,?_,?_,?_,a5.symm,hl,aa,ce,rfl⟩ ?_
  iterate 6 simp only[go_sem]
  rintro h s y ⟨r,O,P,f6,C,i,D,ht,hq,hr,hh,rfl⟩;rw[agE];have E:=Bo h m hh G;have cf:=zG hh G;have co:h*m<=r*18446744073709551616+Z->(h-1)*V<=U:=λK=>W.Ea A j X aa ht hh K
  have F:r*18446744073709551616+Z<h*m->q<h:=λK=>W.D_ A j ba am ht K
  have next:q<h->B=(h-1)*a+(r+a):=λhlt=>by
   obtain⟨g,rfl⟩:∃g,h=g+1:=⟨h-1,aa⟩
   grind
  have bi:q<h->18446744073709551616<=r+a->(h-1-1)*V<=U:=λhlt dd=>by
   refine W.Ea A j X aa (next hlt) aa ?_
   have:=zG (x:=h-1) (y:=m) aa G;omega
  obtain⟨p,aw⟩:∃p,p=h*m:=⟨_,rfl⟩;rw[<-aw]at E cf co F;clear aw;have cp:q<h->aE .u64 ((h:Int)-1)=((h-1:Nat):Int):=λhlt=>by grind [cz]
  have bj:r*18446744073709551616+Z<p->∀f:Fr,rd 0 f=.slice b o (n+1) c->rd 5 f=aj n->rd 6 f=aC a->rd 7 f=aC m->rd 8 f=aC h->rd 9 f=aC r->
   ∀Q:b5,(∀d,rd 4 d=aC (h-1:Nat)->18446744073709551616<=r+a->Q .ret d y)->(∀d,rd 0 d=.slice b o (n+1) c->rd 5 d=aj n->rd 6 d=aC a->rd 7 d=aC m->rd 8 d=aC (h-1:Nat)->rd 9 d=aC (r+a:Nat)->r+a<18446744073709551616->Q .norm d y)->
   bK (pc 365 3) Q f y:=by
   intro hlt f I J z bp hJ e3 Q cb cd;have bs:=cp (F hlt);by_cases M:18446744073709551616<=r+a
   .have ws:aE .u64 ((r:Int)+(a:Int))=((r+a-18446744073709551616:Nat):Int):=by rw[hN];omega
    simp(disch:=omega)only[go_sem,O2,O1,OZ,OY,z,hJ,e3,bs,ws,dt];refine cb _ ?_ M;simp only[go_sem]
   .have ws:aE .u64 ((r:Int)+(a:Int))=((r+a:Nat):Int):=by rw[cz _ aa];omega
    simp(disch:=omega)only[go_sem,O2,O1,OZ,OY,z,hJ,e3,bs,ws,df];refine cd _ ?_ ?_ ?_ ?_ ?_ ?_ aa
    iterate 6 simp only[go_sem,I,J,z,bp]
  have ch:=kj p 18446744073709551616;obtain⟨ph,a0⟩:∃x,x=p/18446744073709551616:=⟨_,rfl⟩;obtain⟨pl,ab⟩:∃x,x=p%18446744073709551616:=⟨_,rfl⟩;rw[<-a0,<-ab]at ch E;have ds:pl<18446744073709551616:=by rw[ab];exact fD _ ai
  clear a0 ab;by_cases c1:ph<r
  .simp(disch:=omega)only[go_sem,C,i];refine use E ?_;simp(disch:=omega)only[go_sem,Dq,i,D,dt]
   grind
  .by_cases c2:ph=r
   .by_cases c':Z<pl
    .simp(disch:=omega)only[go_sem,C,i];refine use E ?_;simp(disch:=omega)only[go_sem,Dq,O,P,D,dt,df,aK,cH,Y,R,eG,a3];refine bj aa _ ?_ ?_ ?_ ?_ ?_ ?_ _ ?_ ?_
     iterate 6 simp only[go_sem,O,P,f6,C,i,D]
     .intro d g4 M;simp only[go_sem,g4];exact⟨h-1,rfl,aa,aa,bi (F aa) M,trivial⟩
     .intro d I J z bp hJ e3 ae;simp only[go_sem];have Iy:=F aa;exact⟨h-1,aa,r+a,I,J,z,bp,hJ,e3,next Iy,aa,ae,aa,rfl⟩
    .simp(disch:=omega)only[go_sem,C,i];refine use E ?_;simp(disch:=omega)only[go_sem,Dq,O,P,i,D,dt,df,aK,cH,Y,R,eG,a3]
     grind
   .simp(disch:=omega)only[go_sem,C,i];refine use E ?_;simp(disch:=omega)only[go_sem,Dq,D,df];refine bj aa _ ?_ ?_ ?_ ?_ ?_ ?_ _ ?_ ?_
    iterate 6 simp only[go_sem,O,P,f6,C,i,D]
    .intro d g4 M;simp only[go_sem,g4];exact⟨h-1,rfl,aa,aa,bi (F aa) M,trivial⟩
    .intro d I J z bp hJ e3 ae;simp only[go_sem];have Iy:=F aa;exact⟨h-1,aa,r+a,I,J,z,bp,hJ,e3,next Iy,aa,ae,aa,rfl⟩
def PY{P ds V U:Nat}(e:U=a+P*d)(g:a+P*m=ds+V*D)(f:ds<P)(c:d<m):U<D*V:=by have b:P*(d+1)<=P*m:=eN _ c;rw[dL,eD]at b;rw[dy D];omega
def ajg{P ds V U c:Nat}(l:U=a+P*d)(j:a+P*m=ds+V*D)(s:ds<P)(t:d<m)(o:O+P*c=ds+V)(y:O<P)(p:c<=1)(x:V<=P)(n:0<V)(h:(D-1)*V<=U):m=d+1/\c=1/\D-1=U/V/\O=U%V:=by
 have f:=PY l j s t;have hh:0<D:=by
  rcases uB D with e|e
  .rw[e,j4]at f;omega
  .exact e
 obtain⟨g,rfl⟩:∃g,D=g+1:=⟨D-1,aa⟩;rw[vN]at h⊢;have i:U/V=g:=Nat.div_eq_of_lt_le h f;have u:=kj U V;have z:=fD U n;rw[i]at u;rw[dL,eD]at j;obtain⟨b,rfl⟩:∃b,m=d+1+b:=⟨m-d-1,aa⟩;have k:P*(d+1+b)=P*d+P+P*b:=by rw[dL,dL,eD]
 have r:b=0:=by
  rcases uB b with e|e
  .exact e
  .have v:P*1<=P*b:=eN _ e;have w:P*c<=P*1:=eN _ p;omega
 subst r;rw[gj]at k;have q:c=1:=by
  rcases uB c with e|e
  .rw[e,gj]at o;omega
  .omega
 subst q;exact⟨rfl,rfl,i.symm,aa⟩
def aji{P ds V U:Nat}(g:U=a+P*d)(o:a+P*m=ds+V*D)(l:m<=d)(k:V<=P)(f:0<V)(j:U/V<=D):d=m/\D=U/V/\ds=U%V:=by
 obtain⟨b,rfl⟩:∃b,d=m+b:=⟨d-m,aa⟩;rw[dL]at g;have hh:D*V<=U:=by rw[dy];omega
 have c:D=U/V:=Nat.le_antisymm ((vO f).2 hh) j;have i:=kj U V;have n:=fD U f;rw[<-c]at i;have h:b=0:=by
  rcases uB b with e|e
  .exact e
  .have c:P*1<=P*b:=eN _ e;omega
 subst h;exact⟨rfl,c,aa⟩
def V3(d a e dv:av)(n:Nat)(Y:W.aG a)(S:W.aG dv)(ar:af a=n)(hn:af dv=n)(ls:af (d++a++e)<1000000)(o b C:Nat)(Z:af d=o)(X:af (d++a++e)=C)(c:Cap)(F:Fr)(H:ah)(R:b5)(P:H.get b=an (aQ (d++a++e)) 0)
 (G:rd 11 F=.slice b 0 C c) (L:rd 13 F=aj o) (M:rd 17 F=aC 0) (I:rd 113 F=bx dv) (J:rd 114 F=aj n) (K:rd 115 F=aj 0)
 (Q:∀m v i k,(∀t,t<17->rd t m=rd t F)->rd 17 m=aC (k:Nat)->k<=1->af i=n->W.aG i->W.val i+18446744073709551616^n*k=W.val a+W.val dv->eZ H v b (aQ (d++i++e))->R (.exit 3) m v):bK (.loop (pc 310 3)) R F H:=by
 refine b8 (λk f w=>∃(ds:av) (g:Nat),k=n-af ds/\af ds<=n/\(∀t,t<17->rd t f=rd t F)/\rd 17 f=aC g/\rd 113 f=bx dv/\rd 114 f=aj n/\rd 115 f=aj (af ds)/\g<=1/\W.aG ds/\
  W.val ds+18446744073709551616^(af ds)*g=W.val (a.take (af ds))+W.val (dv.take (af ds))/\eZ H w b (aQ (d++ds++(a.drop (af ds)++e)))) n ⟨[],0,rfl,cj _,λ_ _=>rfl,M,I,J,K,aa,W.aG.nil,by simp[W.val],by simpa using eZ.refl P⟩ ?_
 rintro k f w ⟨ds,g,rfl,ae,j,A,y,p,z,B,D,u,h⟩;have N:=(j 11 ai).trans G;have O:=(j 13 ai).trans L;rw[afk];simp only[bw]at ls X;by_cases hi:af ds<n
 .have a0:=S.getD (af ds);have ap:=Y.getD (af ds);have T:=tC (l:=a) (i:=af ds) aa;rw[T,gv]at h;have U:=h.at;have l:af (d++ds)=o+af ds:=by rw[bw,Z]
  have al:o+af ds<af (aQ (d++ds++a.getD (af ds) 0::(a.drop (af ds+1)++e))):=by rw[fo,bw,l];simp
  have am:o+af ds<af (d++ds++a.getD (af ds) 0::(a.drop (af ds+1)++e)):=by rw[bw,l];simp
  have V:=so (es:=a.drop (af ds+1)++e) (e:=a.getD (af ds) 0) l;have ab:((o:Int)+(af ds:Int)).toNat=o+af ds:=aa;have ac:aE .i64 ((o:Int)+(af ds:Int))=(o:Int)+(af ds:Int):=aK _ aa;obtain⟨s,E⟩:∃s,s=a.getD (af ds) 0+dv.getD (af ds) 0+g:=⟨_,rfl⟩;have x:=xx (a:=a.getD (af ds) 0) (b:=dv.getD (af ds) 0) B;rw[<-E]at x;simp(disch:=omega)only[go_sem,OB,afj,afi,N,O,A,y,p,z,dt,ir,cg,eG,cH,ab,ac,U,V,x,fE,lP,nH l,aK];refine⟨n-(af ds+1),aa,ds++[s%18446744073709551616],s/18446744073709551616,aI,by simp;omega,λt r=>?_,?_,?_,?_,?_,aa,D.app (.mk aa W.aG.nil),?_,?_⟩
  .simp(disch:=omega)only[cX];exact j t r
  iterate 3 simp only[go_sem,y,p]
  .simp only[go_sem,bw,iA];rfl
  .rw[W.gi];simp only[bw,iA,dX,W.val,gj,dG];rw[mO aa,mO aa];exact Gv u aa
  .have:=h.set (aQ (d++(ds++[s%18446744073709551616])++(a.drop (af ds+1)++e)));simpa using this
 .have q:af ds=n:=aa;simp(disch:=omega)only[go_sem,OB,p,z,df];rw[q,dr aa,dr aa]at u;rw[q,mR aa,fS]at h;refine Q _ _ ds g (λt r=>?_) ?_ B q D u h
  .simp(disch:=omega)only[cX];exact j t r
  .simp only[go_sem,A]
def awD{V:Nat}(c:a<18446744073709551616)(b:d<V):a+18446744073709551616*d<V*18446744073709551616:=by omega
theorem PR{V X:Nat}(b:V*m+D=a+18446744073709551616*d)(h:O*V+d=X):(m+18446744073709551616*O)*V+D=a+18446744073709551616*X:=by grind
set_option maxHeartbeats 2000000 in
theorem HO(d dv:av)(n a m:Nat)(ci:W.aG d)(T:W.aG dv)(hX:d.length=a+1)(G:af dv=n)(h2:2<=n)(hm:a+1-n=m)(ft:n<=a)(hl:a<900000)(e0:9223372036854775808<=dv.getD (n-1) 0)(f j:Nat)(hb:f≠j)(F:Fr)(H:ah)(R:b5)
 (db:rd 8 F=aj n) (c1:rd 10 F=bx dv) (c2:rd 11 F=.slice f 0 (a+1) (.known (a+1))) (c':rd 12 F=.slice j 0 m (.known m)) (da:rd 13 F=aj ((m:Int)-1)) (d3:W.val (d.drop m)<W.val dv) (dT:H.get f=an (aQ d) 0) (d0:H.get j=an (aQ (aZ m 0)) 0)
 (hR:∀F' K r b,(∀t,t<13->rd t F'=rd t F)->af r=n->W.aG r->W.aG b->af b=m->W.val b*W.val dv+W.val r=W.val d->W.val r<W.val dv->K.get f=an (aQ (r++aZ m 0)) 0->K.get j=an (aQ b) 0->K.ag=H.ag->R (.exit 1) F' K):bK (.loop (pc 310 6)) R F H:=by
 have bo:W.val dv<18446744073709551616^n:=by have:=W.iz T;rw[G]at this;exact this
 have P:0<W.val dv:=aa
 refine b8 (λk V L=>∃(r b:av),k<=m/\(∀t,t<13->rd t V=rd t F)/\rd 13 V=aj ((k:Int)-1)/\af r=n/\W.aG r/\W.aG b/\af b=m-k/\W.val b*W.val dv+W.val r=W.val (d.drop k)/\W.val r<W.val dv/\L.get f=an (aQ (d.take k++r++aZ (m-k) 0)) 0/\L.get j=an (aQ (aZ k 0++b)) 0/\L.ag=H.ag) m
  ⟨d.drop m,[],aJ _,λ_ _=>rfl,da,by rw[lB];omega,ci.drop _,W.aG.nil,aI,by simp[W.val],d3,by rw[nQ,qL,hU,p6];exact dT,by rw[hU];exact d0,rfl⟩ ?_
 rintro k V L ⟨r,b,hk,s,o,hr,cs,a9,es,hv,ce,l,S,ca⟩;have C:=(s 8 ai).trans db;have Y:=(s 10 ai).trans c1;have q:=(s 11 ai).trans c2;have bi:=(s 12 ai).trans c';rw[afm];cases k with
 |zero=>
  simp(disch:=omega)only[go_sem,o];rw[vM,fS,Nat.sub_zero]at l;rw[qL,fS]at S;refine hR _ _ r b (λt y=>?_) hr cs a9 es hv ce l S ca
  grind [cX]
 |succ i=>
  have b':i<d.length:=aa;have a2:List.take (i+1) d=d.take i++[d.getD i 0]:=yo b';have hx:=ci.getD i;have al:=W.wY b';obtain⟨x,ex⟩:∃x,x=d.getD i 0:=⟨_,rfl⟩;rw[<-ex]at a2 hx al;have w:af (d.take i)=i:=jq aa;obtain⟨g,X⟩:∃p,p=d.take i:=⟨_,rfl⟩;rw[<-X]at a2 w;obtain⟨z,dk⟩:∃z,z=m-(i+1):=⟨_,rfl⟩;rw[<-dk]at l;have bj:W.val (x::r)<W.val dv*18446744073709551616:=awD hx ce;have U:W.aG (x::r):=.mk hx cs;have cf:af (x::r)=n+1:=by simp[hr]
  have eb:g++[x]++r++aZ z 0=g++(x::r)++aZ z 0:=aI;rw[a2,eb]at l;have ab:W.val (x::r)=x+18446744073709551616*W.val r:=rfl;obtain⟨u,dd⟩:∃u,u=x::r:=⟨_,rfl⟩;rw[<-dd]at l bj U cf ab;have a1:u=u.take n++[u.getD n 0]:=by rw[<-yo aa,dr aa]
  have cp:=U.take n;have aw:af (u.take n)=n:=jq aa;have y:=U.getD n;obtain⟨a7,em⟩:∃p,p=u.take n:=⟨_,rfl⟩;obtain⟨t,et⟩:∃p,p=u.getD n 0:=⟨_,rfl⟩;rw[<-em,<-et]at a1;rw[<-em]at cp aw;rw[<-et]at y;have Z:W.val u=W.val a7+18446744073709551616^n*t:=by rw[a1,W.gi,aw];simp[W.val]
  have ed:g++u++aZ z 0=g++a7++t::aZ z 0:=by rw[a1];simp
  have d8:(((i+1:Nat):Int)-1)=(i:Int):=aa;rw[d8]at o;have J:aE .i64 ((i:Int)+(n:Int))=(i:Int)+(n:Int):=aK _ aa;have e2:aE .i64 ((i:Int)+(n:Int)+1)=(i:Int)+(n:Int)+1:=aK _ aa;have ev:slice3 (kG 1) true true false [.slice f 0 (a+1) (.known (a+1)),aj i,aj ((i:Int)+(n:Int)+1)]=some (.val (.slice f i (n+1) (.known (a+1-i)))):=by rw[E0 aa];congr 3<;>omega
  have eQ:slice3 (kG 1) true true false [.slice f 0 (a+1) (.known (a+1)),aj i,aj ((i:Int)+(n:Int))]=some (.val (.slice f i n (.known (a+1-i)))):=by rw[E0 aa];congr 3<;>omega
  simp(disch:=omega)only[go_sem,afl,C,Y,q,o,df,J,e2,ev];refine(ajJ g u (aZ z 0) dv n U T G cf h2 e7 aa e0 bj i f w _ _ l).mono ?_;rintro _ _ ⟨h,rfl,b2,eq,d7,rfl⟩;simp(disch:=omega)only[go_sem,C,Y,q,o,J,eQ];rw[ed]at l;refine(au' g a7 (t::aZ z 0) dv h n cp T b2 G aw e7 i f w _ _ l).mono ?_;rintro _ H2 ⟨ds,k,rfl,fi,Q,a8,a5,N⟩;have bs:W.val ds<18446744073709551616^n:=by have:=W.iz a8;rw[Q]at this;exact this
  have ap:=N.at;have ar:H2.get j=an (aQ (aZ (i+1) 0++b)) 0:=by rw[N.get,ao (λe=>hb e.symm)];exact S
  have cb:H2.ag=H.ag:=N.ag.trans ca;clear N S l;have D:af (g++ds)=i+n:=by rw[bw,w,Q]
  have fn:i+n<af (aQ (g++ds++t::aZ z 0)):=by rw[fo,bw,D];simp
  have fp:i+n<af (g++ds++t::aZ z 0):=by rw[bw,D];simp
  have b0:=so (es:=aZ z 0) (e:=t) D;have a3:((i:Int)+(n:Int)).toNat=i+n:=aa;have fv:af (aQ (aZ (i+1) 0++b))=m:=by rw[fo];simp;omega
  have ad:j≠f:=λe=>hb e.symm
  have ch:m-i=z+1:=aa;by_cases hc:t<k
  .have wt:aE .u64 ((t:Int)-(k:Int))=((t+18446744073709551616-k:Nat):Int):=by rw[hN];omega
   have fr:((t:Nat):Int)<(k:Int):=aa;have d2:=PY Z a5 bs hc;have fd:0<h:=by
    rcases uB h with e|e
    .rw[e,j4]at d2;omega
    .exact e
   have e':aE .u64 ((h:Int)-1)=((h-1:Nat):Int):=by rw[cz _ aa];omega
   simp(disch:=omega)only[go_sem,C,Y,q,o,J,a3,ap,b0,eG,cH,wt,fE,lP,nH D,dt,e'];refine V3 g ds ((t+18446744073709551616-k)::aZ z 0) dv n a8 T Q G e7 i f (a+1) w e7 (.known (a+1)) _ _ _ ?_ ?_ ?_ ?_ ?_ ?_ ?_ ?_
   .rw[ah.aT,ay rfl]
   iterate 6 simp only[go_sem,q,o,G]
   intro A H3 B c v akM d4 am co e1 O;have d5:W.val B<18446744073709551616^n:=by have:=W.iz co;rw[am]at this;exact this
   obtain⟨d9,fb,hq,I⟩:=ajg Z a5 bs hc e1 d5 d4 (ja bo) P d7;have bv:=O.at;have d6:H3.get j=an (aQ (aZ (i+1) 0++b)) 0:=by rw[O.get,ao ad,ah.aT,ao hb];exact ar
   have eh:H3.ag=H.ag:=O.ag.trans cb;clear O ap ar;have h8:rd 8 A=aj n:=(v 8 ai).trans (by simp only[go_sem,C]);have dl:rd 11 A=.slice f 0 (a+1) (.known (a+1)):=(v 11 ai).trans (by simp only[go_sem,q]);have dp:rd 12 A=.slice j 0 m (.known m):=(v 12 ai).trans (by simp only[go_sem,bi]);have dq:rd 13 A=aj i:=(v 13 ai).trans (by simp only[go_sem,o]);have du:rd 14 A=aC (h-1:Nat):=(v 14 ai).trans eJ;have M:af (g++B)=i+n:=by rw[bw,w,am]
   have d':i+n<af (aQ (g++B++(t+18446744073709551616-k)::aZ z 0)):=by rw[fo,bw,M];simp
   have ea:i+n<af (g++B++(t+18446744073709551616-k)::aZ z 0):=by rw[bw,M];simp
   have b1:=so (es:=aZ z 0) (e:=t+18446744073709551616-k) M;have c0:aE .u64 (((t+18446744073709551616-k:Nat):Int)+(c:Int))=((0:Nat):Int):=by rw[hN];omega
   have el:h-1<18446744073709551616:=aa;rw[d9]at b1 d' ea bv c0;rw[gb];simp(disch:=omega)only[go_sem,OC,h8,dl,dp,dq,du,akM,J,a3,bv,d6,b1,eG,cH,c0,fE,lP,nH M,ao,cg,J6,aK];have E:=kj (W.val u) (W.val dv);rw[<-hq,<-I,ab]at E;refine⟨i,aa,B,(h-1)::b,aa,λt y=>?_,?_,am,co,.mk el a9,by simp;omega,?_,by rw[I];exact fD _ P,?_,?_,eh⟩
   .simp(disch:=omega)only[cX];refine(v t aa).trans ?_;simp(disch:=omega)only[cX];exact s t y
   .simp only[go_sem]
   .rw[al,<-hv];exact PR E rfl
   .rw[ah.aT,ao ad,ah.aT,ay rfl,X,ch,qK]
   .rw[ah.aT,ay rfl]
  .obtain⟨fw,hq,I⟩:=aji Z a5 (k4 hc) (ja bo) P eq;have wt:aE .u64 ((t:Int)-(k:Int))=((0:Nat):Int):=by rw[hN];omega
   simp(disch:=omega)only[go_sem,OC,C,q,bi,o,J,a3,ap,ar,b0,eG,cH,wt,fE,lP,nH D,df,ao,cg,J6,aK];have E:=kj (W.val u) (W.val dv);rw[<-hq,<-I,ab]at E;refine⟨i,aa,ds,h::b,aa,λt y=>?_,?_,Q,a8,.mk b2 a9,by simp;omega,?_,by rw[I];exact fD _ P,?_,?_,cb⟩
   .simp(disch:=omega)only[cX];exact s t y
   .simp only[go_sem]
   .rw[al,<-hv];exact PR E rfl
   .rw[ah.aT,ao ad,ah.aT,ay rfl,X,ch,qK]
   .rw[ah.aT,ay rfl]
theorem ox(n:Nat)(c:n≠0):∃r,n=(az n).getD (af (az n)-1) 0*18446744073709551616^(af (az n)-1)+r/\r<18446744073709551616^(af (az n)-1):=by
 have hl:=(j7 n).2 c;have h:=W.sV (l:=az n) (i:=af (az n)-1) aa;rw[g7]at h;have b:(az n).drop (af (az n)-1+1)=[]:=mR aa;rw[b]at h;have a:=W.iz ((g5 n).take (af (az n)-1));rw[jq aa]at a;refine⟨_,?_,a⟩;simp only[W.val,gj,dG]at h
 grind
theorem Fh(n:Nat)(a:n≠0):(az n).getD (af (az n)-1) 0≠0:=by
 have hl:=(j7 n).2 a;intro h;have c:=Dx n;have b:=W.aY.pos c (λe=>by grind);rw[g7]at b;obtain⟨r,d,f⟩:=ox n a
 grind
def Er(f:a≠0)(q:d<=63)(h:(az a).getD (af (az a)-1) 0*2^d<18446744073709551616):af (az (a*2^d))=af (az a):=by
 obtain⟨r,n,o⟩:=ox a f;have hl:=(j7 a).2 f;have c:0<2^d:=gE ai;have p:=nu (m:=a) (n:=a*2^d) (yJ a c);have s:af (az (a*2^d))<=af (az a):=by
  refine xL ?_;generalize(az a).getD (af (az a)-1) 0=t at*
  have l:(18446744073709551616:Nat)^(af (az a))=18446744073709551616*18446744073709551616^(af (az a)-1):=by rw[(aa:af (az a)=af (az a)-1+1),dX,dy,vN]
  rw[l];generalize(18446744073709551616:Nat)^(af (az a)-1)=P at*
  have b:=vi (s:=d) aa;have m:t+1<=2^(64-d):=by rw[b]at h;exact vP h
  have g:(t+1)*2^d<=18446744073709551616:=by have e:=ei (2^d) m;rw[<-b]at e;exact e
  have i:a<(t+1)*P:=by rw[fT,kn];omega
  have j:a*2^d<(t+1)*P*2^d:=qQ i c;have k:(t+1)*P*2^d<=18446744073709551616*P:=by rw[xk];exact ei P g
  exact fy j k
 omega
def Bv(b:d≠0)(j:m<=63)(f:9223372036854775808<=(az d).getD (af (az d)-1) 0*2^m)(h:(az d).getD (af (az d)-1) 0*2^m<18446744073709551616):9223372036854775808<=(az (d*2^m)).getD (af (az d)-1) 0:=by
 have hl:=Er b j h;have o:0<2^m:=gE ai;have i:d*2^m≠0:=xj b aa;obtain⟨r,l,n⟩:=ox d b;obtain⟨p,c,e⟩:=ox (d*2^m) i;rw[hl]at c e;generalize(az d).getD (af (az d)-1) 0=t at*
 generalize(az (d*2^m)).getD (af (az d)-1) 0=k at*
 generalize(18446744073709551616:Nat)^(af (az d)-1)=P at*
 refine c5 f (k4 λg=>?_);have a:(k+1)*P<=t*2^m*P:=ei P g;simp_all [fT,kn,ei,xk];omega
def Kh{X P V:Nat}(c:X<P*a*d)(e:X=m+P*D)(b:a*d<=V):D<V:=by
 have h:P*D<P*(a*d):=by rw[<-dx];omega
 exact fy (Nat.lt_of_mul_lt_mul_left h) b
theorem aiZ(m n:Nat)(g:n≠0)(lm:af (az m)<100000)(ln:af (az n)<100000):bm 310 [bx (az m),bx (az n)] (.aH [bx (az (m/n)),bx (az (m%n))]):=by
 refine gR (.f2 (eF _) (eF _)) (bg IK ?_);have a4:=(j7 n).2 g;simp(disch:=omega)only[go_sem,d310,Hv];refine use (xE m n aa aa) ?_;by_cases p:m<n
 .rw[sg aa];simp(disch:=omega)only[go_sem,dt];rw[mw p,jR p,k9];exact⟨_,.aH (.f2 .gK .mm),.aH (.f2 (.row 0 .nil) (eF _)),rfl⟩
 have bv:¬fW (m:Int) (n:Int)<0:=by
  rcases Nat.lt_or_eq_of_le (k4 p)with h|h
  .grind [r_]
  .grind [C8]
 by_cases I:af (az n)=1
 .have a3:dO none 1 [bx (az n),aj 0]=some (.val (.dY (aQ (az n)) 0)):=ir ⟨ai,aa⟩;have R:(az n).getD 0 0=n:=by obtain⟨r,F,G⟩:=ox n g;rw[I]at F G;simp only[nQ,r0,eD]at F G;omega
  have z:=(g5 n).getD 0;rw[R]at z;simp(disch:=omega)only[go_sem,df,dt,a3,eG,R];refine use (ai2 (az m) n (g5 m) ⟨aa,z⟩ aa) ?_;simp(disch:=omega)only[go_sem,g7];refine use (DP (m%n) (rZ (fD _ aa) z)) ?_;simp(disch:=omega)only[go_sem];exact jy rfl (.aH (.f2 (eF _) (eF _)))
 have J:2<=af (az n):=aa;have y:af (az n)<=af (az m):=nu (k4 p);obtain⟨D,f⟩:∃t,t=(az n).getD (af (az n)-1) 0:=⟨_,rfl⟩;have U:=Fh n g;have B:=(g5 n).getD (af (az n)-1);rw[<-f]at U B;obtain⟨e,N,v⟩:=Bl (y:=D) U B;have Q:=Bk D B;obtain⟨s,S⟩:∃s,s=64-fk D:=⟨_,rfl⟩;rw[<-S]at e N v Q;clear S;have o:0<2^s:=gE ai;have w:=Er g e (by rw[<-f];exact v);have x:=Bv g e (by rw[<-f];exact N) (by rw[<-f];exact v);have a1:aE .u64 ((s:Nat):Int)=(s:Int):=cz _ aa;have V:aE .i64 ((af (az n):Int)-1)=(af (az n):Int)-1:=aK _ aa;have T:((af (az n):Int)-1).toNat=af (az n)-1:=aa;obtain⟨c,k⟩:∃l,l=af (az m):=⟨_,rfl⟩;obtain⟨l,H⟩:∃l,l=af (az n):=⟨_,rfl⟩;rw[<-k]at y lm;rw[<-H]at a4 ln I J y f w x V T;have K:af (az (m*2^s))<=c+1:=by
  refine xL ?_;have a:=pG m;rw[<-k]at a;have b:2^s<=18446744073709551616:=by rw[vi (s:=s) aa];exact yI _ (gE ai)
  rw[dX];exact fy (qQ a o) (eN _ b)
 simp(disch:=omega)only[go_sem,Hu,Ht,df,<-H,V,ir,T,eG,<-f];refine use Q ?_;simp(disch:=omega)only[go_sem,Hs,a1];refine use (zT n s e aa) ?_;have bb:aE .i64 ((c:Int)+1)=(c:Int)+1:=aK _ aa;have ba:((c:Int)+1).toNat=c+1:=aa;simp(disch:=omega)only[go_sem,Hr,Hq,<-k,bb,iG,ba,qv];refine use (zT m s e aa) ?_;simp(disch:=omega)only[go_sem];refine DB (cs:=aQ (aZ (c+1) 0)) eJ K (by rw[fo];simp) ?_;obtain⟨d,i⟩:∃X,X=az (m*2^s)++aZ (c+1-af (az (m*2^s))) 0:=⟨_,rfl⟩;have L:aQ (az (m*2^s))++(aQ (aZ (c+1) 0)).drop (af (az (m*2^s)))=aQ d:=by rw[i,Ad];congr 1;rw[aQ,<-List.map_drop,xb];rfl
 have bj:W.aG d:=by rw[i];exact(g5 _).app (wI _)
 have a0:d.length=c+1:=by rw[i];simp;omega
 have M:W.val d=m*2^s:=by rw[i,W.gi,vv,g7,gj,dG]
 rw[L];clear L i K;obtain⟨j,ad⟩:∃j,c+1-l=j:=⟨_,rfl⟩;have bc:aE .i64 ((c:Int)-(l:Int))=(j:Int)-1:=by rw[aK _ aa];omega
 have bd:aE .i64 ((j:Int)-1+1)=(j:Int):=by rw[aK _ aa];omega
 simp(disch:=omega)only[go_sem,Hy,Hx,<-k,bc,bd,iG,qv,cg];have ar:W.val (d.drop j)<W.val (az (n*2^s)):=by have Y:=W.rL d j aa;rw[M]at Y;have a:=pG m;rw[<-k,(aa:c=j+(l-1)),iB]at a;have b:=qQ a o;obtain⟨r,E,_⟩:=ox (n*2^s) (xj g aa);rw[w]at E;refine Kh b Y ?_;rw[g7,E];have am:2^s<=9223372036854775808:=c5 (iI ai e) ai;have c2:=ei (18446744073709551616^(l-1)) (c5 am x);rw[dy];exact c5 c2 (qP _ _)
 refine HO d (az (n*2^s)) l c j bj (g5 _) a0 w J ad y aa x 5 6 ai _ _ _ ?_ ?_ ?_ ?_ ?_ ar ?_ ?_ ?_
 iterate 7 simp only[go_sem]
 intro q H3 r Z u hr bs bo a7 C A a2 O b0;have h9:rd 9 q=aC s:=(u 9 ai).trans eJ;have ae:rd 11 q=.slice 5 0 (c+1) (.known (c+1)):=(u 11 ai).trans eJ;have al:rd 12 q=.slice 6 0 j (.known j):=(u 12 ai).trans eJ;rw[gb];rw[M,g7]at C;rw[g7]at A;have aw:0<n*2^s:=s_ aa o;have hq:W.val Z=m/n:=by rw[<-Nat.mul_div_mul_right m n o,<-C,dy,Nat.mul_add_div aw,mw A,dG]
 have a9:W.val r=m%n*2^s:=by rw[<-uD,<-C,dy,Nat.mul_add_mod,jR A]
 simp(disch:=omega)only[go_sem,Hw,al];refine kV (sQ Z aa) O ⟨0,_,_,fj.2 rfl⟩ (.f1 (sn O jE a7)) ?_;simp(disch:=omega)only[go_sem,ae];have P:(H3.set 6 .none).get 5=an (aQ (r++aZ j 0)) 0:=by rw[ah.aT,ao ai];exact a2
 have a5:af (r++aZ j 0)=c+1:=e7;refine kV (sQ (r++aZ j 0) aa) P ⟨0,_,_,fj.2 rfl⟩ (.f1 (sn P jE a5)) ?_;have a':W.trim (r++aZ j 0)=az (m%n*2^s):=by rw[nI (bs.app (wI _)),W.gi,vv,gj,dG,a9]
 rw[a',nI bo,hq];have a8:af (az (m%n*2^s))<100000:=by have:=nu (m:=m%n*2^s) (n:=n*2^s) (ei _ (ja (fD _ aa)));omega
 simp(disch:=omega)only[go_sem,h9];refine use (auc (m%n*2^s) s e a8) ?_;rw[Nat.mul_div_cancel _ o];simp(disch:=omega)only[go_sem];exact jy rfl (.aH (.f2 (eF _) (eF _)))
def ai3(m n:Nat)(a:n≠0)(b:af (az m)<80)(c:af (az n)<80):bm 250 [bx (az m),bx (az n)] (.aH [bx (az (m/n)),bx (az (m%n))]):=by refine dM (.f2 (eF _) (eF _)) (.aH (.f2 (eF _) (eF _))) (bg II ?_);simp(disch:=omega)only[go_sem,d250,G6,G5,dt];refine use (aiZ m n a aa aa) ?_;simp only[go_sem]
end Go.Proofs.YtddhncjmaahodaaGreatDoor
