/- Towards the law TreeCovers: lemmas on the evaluator of the model's code, plain laws of numbers, walks of the program's functions, the card. No conditions. -/
import Derived.Test.YtddhncjmaahodaaGreatDoorE3
import Derived.Below
import Derived.ProofKit
import Derived.Test.YtddhncjmaahodaaGreatDoorRows
import Derived.Lib.LaidTab
import Derived.Carry
import Derived.ChangeSlices
import Derived.Deep.SlicePairs
import Derived.Handed
import Derived.RowKit
set_option linter.all false
noncomputable section
open Array renaming ext'->um
open Bool renaming and_eq_true->de,eq_false_iff->mo,false_eq_true->jk,not_false->lS,not_true->jQ
open Go.Proofs.Tryz renaming f128->p_,f129->r4,f258->r5,f281->k6,f336->qa,f338->qX,f342->oG,f344->oH,f345->tg,f346->uH,f347->uI,f400->uJ,f45->qc,f62->th,f92->mT,prog->e9
open Int renaming natAbs_natCast->eU,natAbs_neg->pY,natCast_mul->fF,natCast_zero->kh,ofNat_lt->s3,toNat_natCast->cg
open List renaming all_eq_true->qJ,append_assoc->gX,append_nil->hU,cons_append->gv,drop_replicate->xb,eq_nil_of_length_eq_zero->pn,ext_getElem?->oC,getD_eq_getElem?_getD->bT,getElem?_append_left->s4,getElem?_append_right->vI,getElem?_eq_getElem->c4,getElem?_eq_none->lA,getElem?_eq_some_iff->jo,getElem?_map->hY,getElem?_range->p4,getElem?_replicate->yE,getElem?_set->rS,getElem_mem->s5,length->af,length_append->bw,length_cons->dZ,length_drop->lB,length_map->gD,length_nil->p5,length_range->rT,length_replicate->ux,length_set->iO,length_singleton->iA,length_take->e8,map_append->vJ,mem_append->ki,mem_cons->jr,mem_cons_of_mem->pq,mem_cons_self->uy,mem_map->g8,mem_of_getElem?->fL,mem_of_mem_take->oD,mem_or_eq_of_mem_set->yF,mem_singleton->fj,nil_append->fS,not_mem_nil->rV,pairwise_cons->uz,range->kZ,replicate->aZ,replicate_succ->qK,replicate_zero->qL,take_append_of_le_length->Am,take_left'->s6,take_length->qM,take_of_length_le->dr,take_succ_eq_append_getElem->lT
open Nat renaming add->gY,add_assoc->ng,add_comm->i_,add_mul->fT,add_sub_cancel->vN,add_zero->dG,beq->bt,beq_refl->uA,ble->b6,div_eq_of_lt->mw,div_one->pA,le_add_right->qP,le_mul_of_pos_right->yJ,le_of_ble_eq_true->jI,le_of_lt->ja,le_refl->aJ,le_succ->s9,le_trans->c5,lt_of_le_of_lt->fu,lt_of_lt_of_le->fy,lt_or_ge->rY,lt_succ_of_lt->xh,lt_succ_self->nO,lt_trans->rZ,min_eq_left->p7,mod_eq_of_lt->jR,mul->fz,mul_assoc->dx,mul_le_mul->iP,mul_le_mul_left->eN,mul_le_mul_right->ei,mul_one->eD,mul_pos->s_,mul_zero->gj,not_lt_zero->nP,one_mul->kn,reduceEqDiff->mz,sub->ko,sub_self->nQ,succ_mul->qR,succ_pos->mA,zero_add->eW,zero_le->cj,zero_mul->j4
open Option renaming none->aN
open Rat renaming divInt->oE,le_refl->qS,mul_one->uF
namespace Go.Proofs.YtddhncjmaahodaaGreatDoor
open Go.ax Go.aD
def pV:au:=[aj 0,aj 0,aj 0,aj 0,aj 0,aj 0]
variable{g:av}
def ar1(h:af g<=6):bL g++pV.drop (af g)=en g:=by unfold en;rw[show pV=aZ 6 (V.int .i64 0)from rfl,xb]
variable{j:Fr}{b:ah}{x:cq}{s:cm}{a:Nat}{d:Nat}{m:Nat}{D:Nat}
theorem ajr{X Y:au}{es:av}(g:b.get a=an (X++(pV++Y)) 0)(f:X.length=d)(h:b.get m=an (bL es) 0)(hl:af es=D)(n:D<=6)
 (k:s (put j x (aj D)) (b.set a (an (X++(en es++Y)) 0))):gW x s j (oP 1 [.slice a d 6 (.known 6),.slice m 0 D (.known D)] b):=by
 have l:ej D 6=D:=lM n;have o:dj (bL es) (X++(pV++Y)) d=some (X++(en es++Y)):=by
  have q:af pV=6:=rfl;rw[mH,ay (by grind [bw,jz]),s6 f,<-ar1 aa];congr 1;rw[gX,gX];congr 2
  grind [List.drop_drop,List.drop_left,jz]
 have e:oP 1 [.slice a d 6 (.known 6),.slice m 0 D (.known D)] b=some (aj D,b.set a (an (X++(en es++Y)) 0)):=by
  show aq (eu b 1 (ej D 6) (.slice m 0 D (.known D))) (λp=>aq (b.fe a d p) λb=>some (V.int .i64 (.ofNat (ej D 6)),b))=_;rw[l];have i:eu b 1 D (.slice m 0 D (.known D))=some (bL es):=by show b.dz m 0 (D*1)=_;rw[fO h,dQ,eD,je (by rw[jz,hl])]
  rw[i];show aq (b.fe a d (bL es)) _=_;unfold ah.fe;rw[g];show aq (aX (dI (bL es)) (aq (dj (bL es) (X++(pV++Y)) d) λc=>some (b.set a (an c 0)))) _=_;rw[Ay,o];rfl
 rw[e];exact k
def aq5(a:av)(n:Nat)(h:0<n/\n<=6)(hl:af a=n)(i:a.sum<=24)(H:ah)(e:Nat)(c:Cap)(f:H.get e=an (bL a) 0):dm 224 [.slice e 0 n c] H λv d=>v=cY/\d=H:=by
 have g:bS H (ah.zero H.ag) (.slice e 0 n c) (bf a):=by unfold bf;rw[hl];refine .row (m:=n) (cs:=bL a) ?_ h.1 (ah.hL _ _) (dn.refl _);rw[fO f,dQ,je (by rw[jz,hl])]
 refine yV (R:=λv=>v=cY) (.f1 g) ((I0 a aa i _).mono ?_);rintro _ _ ⟨rfl,rfl⟩;exact⟨_,λb=>.bool _,rfl⟩
def Sl(n i:Nat)(s:0<n/\n<=6)(hi:i<2)(x:aW)(q:Rat)(X:numOf x=some q)(Y:af x<=500)(a:av)(hl:af a=n)(S:a.sum<=24)(T be e:Nat)(c:Cap)(j A B:au)(M:cW (eH j (i*2)) 2=some [.str x,.slice e 0 n (.known n)])(F:Fr)(H:ah)(R:b5)
 (G:rd 0 F=aj n) (I:rd 6 F=.slice be 0 2 (.known 2)) (k:rd 21 F=.slice T 0 2 c) (l:rd 22 F=aj 2) (m:rd 23 F=aj i)
 (J:H.get T=an j 0) (o:H.get e=an (bL a) 0) (K:H.get be=an (A++(pV++([aR,.aA,aR,.aA]++B))) 0) (f:A.length=i*10) (O:GT H) (hT:T<H.ag) (he:e<H.ag) (hb:be<H.ag) (a3:5<=be) (Q:e≠be)
 (L:∀b d,(∀t,t<7->rd t b=rd t F)->rd 21 b=.slice T 0 2 c->rd 22 b=aj 2->rd 23 b=aj (i+1:Nat)->d.get be=an (A++(b7 (q,a)++B)) 0->(∀y,y<H.ag->y≠be->d.get y=H.get y)->H.ag<=d.ag->R .norm b d):
 bK (pc 154 3) R F H:=by
 have N:decide ((i:Int)<2)=true:=b3 aa;have w1:aE .i64 ((i:Int)+1)=((i+1:Nat):Int):=by rw[aK _ aa];rfl
 have ab:dO none 2 [.slice T 0 2 c,aj i]=some (.val (.ptr T (i*2))):=by rw[cH aa];simp
 have ac:dO none 10 [.slice be 0 2 (.known 2),aj i]=some (.val (.ptr be (i*10))):=by rw[cH aa];simp
 have n1:¬H.ag=T:=aa;have g:=JM x Y;rw[Es X]at g;unfold cZ at g;simp only[go_sem,Nk,Nj,aay,k,l,m,N,ab,J,M];refine bq g ((O.push aa _).set aa _) ?_;have u:bM (.agg (cc q))=true:=rfl;have v:cellsOf (.agg (cc q))=cc q:=rfl;have eB:c_ (cc q)=4:=rfl;have lH:dj (cc q) [aR,.aA,aR,.aA] 0=some (cc q):=rfl;have pJ:dI (cc q)=true:=rfl;have ad:cW (cc q) 4=some (cc q):=rfl;have P:di (.slice e 0 n (.known n))=some (.val (aj n)):=rfl;have w:¬H.ag=e:=aa;have ae:¬H.ag=be:=aa;have al:¬H.ag+1=be:=aa;have z:¬H.ag+1=e:=aa;have am:¬be=e:=λh=>Q h.symm
 have C:¬H.ag+1=H.ag:=aa;have ap:¬be=H.ag:=aa;simp only[go_sem,u,v,eB,lH,pJ,P,G,C,jQ,decide_true];refine(aq5 a n s hl S _ e (.known n) (by simp only[go_sem,w,z,o])).mono ?_;rintro _ D ⟨rfl,p⟩;rw[p];clear p D;have U:slice3 (ou 6 1) false false false [.ptr be (i*10)]=some (.val (.slice be (i*10) 6 (.known 6))):=rfl;have W:dj (cc q) (A++(pV++([aR,.aA,aR,.aA]++B))) (i*10+6)=some (A++(pV++(cc q++B))):=by
  have E:A++(pV++([V.bool false,.aA,aR,.aA]++B))=(A++pV)++([aR,.aA,aR,.aA]++B):=aI;have r:af (A++pV)=i*10+6:=by rw[bw,f];rfl
  rw[E,mH,ay (by simp only[bw,f];show i*10+6+4<=i*10+6+(4+B.length);omega),s6 r];congr 1;rw[show i*10+6+af (cc q)=af (A++pV)+4 from by rw[r];rfl,<-List.drop_drop,List.drop_left];simp
 simp only[go_sem,jQ,I,ac,U,u,v,eB,pJ,ad,W,ae,al,C,ap,K];refine ajr (X:=A) (Y:=cc q++B) (es:=a) ?_ f ?_ hl s.2 ?_
 iterate 2 simp only[go_sem,w,z,am,o]
 have a8:¬H.ag=H.ag+1:=aa;simp only[go_sem,aax,m,w1];refine L _ _ (λt ht=>?_) ?_ ?_ ?_ ?_ (λy hy Z=>?_) ?_
 .simp(disch:=omega)only[cX]
 iterate 4 simp only[go_sem,k,l,b7,gX]
 .have q1:¬H.ag=y:=aa;have aw:¬H.ag+1=y:=aa;have a0:¬be=y:=λh=>Z h.symm
  simp only[go_sem,q1,aw,a0]
 .simp only[go_sem];omega
theorem aqC(n:Nat)(P:0<n/\n<=6)(u w:aW)(f i:Rat)(db:numOf u=some f)(dd:numOf w=some i)(dT:af u<=500)(d0:af w<=500)(cp:f.num≠0)(U:aM 1000 f)(V:aM 1000 i)(a e:av)(l1:af a=n)(l2:af e=n)(Q:a.sum<=24)(S:e.sum<=24)
 (c1:d6 (.agg (en a)) (.agg (en a))=some true) (da:d6 (.agg (en e)) (.agg (en e))=some true) (c':d6 (.agg (en e)) (.agg (en a))=some false) (dC:ord (fY a) (fY e)=1) (dE:ord (fY e) (fY a)= -1)
 (H:ah) (T o l:Nat) (c:Cap) (N:GT H) (ab:H.get T=an [.str u,.slice o 0 n (.known n),.str w,.slice l 0 n (.known n)] 0) (bs:H.get o=an (bL a) 0) (bv:H.get l=an (bL e) 0) (d7:T<H.ag) (d9:o<H.ag) (d':l<H.ag) (ch:5<=H.ag)
 (j:aF) (r:j=(f,a)::mg (i,e)):
 dm 154 [aj n,.slice T 0 2 c] H λv g=>∃k M m,v=.aH [.agg [aj n,.slice k 0 (af j) (.known (af j))],aj 0]/\nk g M n j m/\g.get k=an m 0/\H.ag<=k/\H.ag<=M/\(∀y,y<H.ag->g.get y=H.get y)/\H.ag<=g.ag/\k<g.ag:=by
 have a0:mg (f,a)=[(f,a)]:=ao cp;have co:mg (i,e)=[]\/mg (i,e)=[(i,e)]:=by unfold mg;split<;>simp
 have cs:0<af j/\af j<=1000:=by rw[r];grind
 have O:∀t∈j,t=(f,a)\/t=(i,e):=by
  intro t q;rw[r]at q;rcases jr.1 q with h|h
  .exact .inl h
  .grind
 have bc:di (.slice T 0 2 c)=some (.val (aj 2)):=rfl;have d1:decide ((n:Int)<0)=false:=bP aa;have d2:decide ((n:Int)>6)=false:=bP aa;have ca:((1+1:Nat):Int)=2:=rfl;have d22:decide ((2:Int)<2)=false:=rfl;have cf:l_ 112 [aj 0,aj 0,aj 0,aj 0,aj 0,aj 0,aR,.aA,aR,.aA] [aj 2,aj 2]=some (.new (pV++([aR,.aA,aR,.aA]++uj)) (.slice 2 2)):=rfl;refine bg anK ?_;simp only[go_sem,d154,aaC,aaB,aaA,bc,d1,d2,cf];obtain⟨R,hR⟩:∃R:b5,R=hD 0 (gy (bK (pc 154 4) (gC [iC.cell 4 true 2,iC.tmp 5] λv g=>∃k M m,v=.aH [.agg [aj n,.slice k 0 (af j) (.known (af j))],aj 0]/\nk g M n j m/\g.get k=an m 0/\H.ag<=k/\H.ag<=M/\(∀y,y<H.ag->g.get y=H.get y)/\H.ag<=g.ag/\k<g.ag)) (gC [iC.cell 4 true 2,iC.tmp 5] λv g=>∃k M m,v=.aH [.agg [aj n,.slice k 0 (af j) (.known (af j))],aj 0]/\nk g M n j m/\g.get k=an m 0/\H.ag<=k/\H.ag<=M/\(∀y,y<H.ag->g.get y=H.get y)/\H.ag<=g.ag/\k<g.ag)):=⟨_,rfl⟩;rw[<-hR];have n1:¬H.ag=T:=aa;have n2:¬H.ag+1=T:=aa;have dq:¬H.ag=o:=aa;have ds:¬H.ag+1=o:=aa;have dt:¬H.ag=l:=aa;have du:¬H.ag+1=l:=aa;have dv:¬H.ag+1=H.ag:=aa;refine ug 3 ?_;rw[k3];refine Sl n 0 P ai u f db dT a l1 Q T (H.ag+1) o c [.str u,.slice o 0 n (.known n),.str w,.slice l 0 n (.known n)] [] uj rfl _ _ _ ?_ ?_ ?_ ?_ ?_ ?_ ?_ ?_ rfl ?_ ?_ ?_ ?_ aa aa ?_
 iterate 4 simp only[go_sem]
 .simp only[go_sem];rfl
 iterate 2 simp only[go_sem,n1,n2,ab,dq,ds,bs]
 .simp only[go_sem];rfl
 .exact(N.push ch _).push ff _
 .simp only[go_sem];omega
 .simp only[go_sem];omega
 .simp only[go_sem];omega
 intro A g C X Y Z ac z ci;simp only[go_sem]at ci;have I:rd 0 A=aj n:=by rw[C 0 ai];simp only[go_sem]
 have J:rd 6 A=.slice (H.ag+1) 0 2 (.known 2):=by rw[C 6 ai];simp only[go_sem]
 have W:rd 4 A=.ptr H.ag 0:=by rw[C 4 ai];simp only[go_sem]
 have a1:g.get T=an [.str u,.slice o 0 n (.known n),.str w,.slice l 0 n (.known n)] 0:=by rw[z T ff aa];simp only[go_sem,n1,n2,ab]
 have a2:g.get l=an (bL e) 0:=by rw[z l ff aa];simp only[go_sem,dt,du,bv]
 have a4:g.get H.ag=an [aj 0,.aA] 0:=by rw[z _ ff aa];simp only[go_sem,dv]
 have a3:∀y,y<H.ag->g.get y=H.get y:=λy s=>by rw[z y ff aa];have f:¬H.ag=y:=aa;have i:¬H.ag+1=y:=aa;simp only[go_sem,f,i]
 have ap:GT g:=N.keep λy s=>a3 y aa
 clear z C;show rW e9 5 (pc 154 3) R 2 A g;rw[k3];refine Sl n 1 P ai w i dd d0 e l2 S T (H.ag+1) l c [.str u,.slice o 0 n (.known n),.str w,.slice l 0 n (.known n)] (b7 (f,a)) [] rfl _ _ _ I J X Y Z a1 a2 ?_ (nv (t:=(f,a)) (by show af a<=6;omega)) ap aa aa aa aa aa ?_
 .rw[ac];rfl
 intro B p D azj akN bj ad aw eb;have bd:rd 0 B=aj n:=by rw[D 0 ai];exact I
 have bi:rd 6 B=.slice (H.ag+1) 0 2 (.known 2):=by rw[D 6 ai];exact J
 have be:rd 4 B=.ptr H.ag 0:=by rw[D 4 ai];exact W
 have el:p.get H.ag=an [aj 0,.aA] 0:=by rw[aw _ aa aa];exact a4
 have df:∀y,y<H.ag->p.get y=H.get y:=λy s=>by grind
 have ar:GT p:=N.keep λy s=>df y aa
 rw[hU]at ad;clear aw D I J W a1 a2 a4 a3 ap X Y Z ac;show rW e9 5 (pc 154 3) R 1 B p;rw[k3];simp only[go_sem,Nk,Nj,akN,bj,ca,d22,hR];have m1:¬p.ag=H.ag+1:=aa;have zB:((f,a):b9).2.length<=6:=by show af a<=6;omega
 have a7:((i,e):b9).2.length<=6:=by show af e<=6;omega
 simp only[go_sem,aaz,bd,bi];refine(XJ (f,a) (i,e) zB a7 c1 da c' U V _ p.ag (H.ag+1) (.known 1) (.known 2) (ar.push aa _) ?_ ?_ ?_ ?_ ?_).mono ?_
 iterate 2 simp only[go_sem,m1,ad]
 .simp only[go_sem];omega
 .simp only[go_sem];omega
 .simp only[go_sem];omega
 rintro _ G ⟨d,b,L,hd,rfl,bo,ae,E,b1,b2,ce⟩;simp only[go_sem]at b1;have F:gI (f,a) (i,e) d=(f,a)::mg (i,e)\/gI (f,a) (i,e) d=mg (i,e)++[(f,a)]:=by
  rcases hd with rfl|rfl
  .left;show mg (f,a)++(mg (i,e)++[])=_;rw[a0,hU];rfl
  .right;show mg (i,e)++(mg (f,a)++[])=_;rw[a0];rfl
 have cd:af (gI (f,a) (i,e) d)=af j:=by
  rw[r]
  grind
 have dk:∀y,y<H.ag+1->G.get y=p.get y:=λy s=>by rw[ce y ff];have f:¬p.ag=y:=aa;simp only[go_sem,f]
 have cb:GT G:=ar.keep λy s=>dk y aa
 have c0:∀x,x.get b=an L 0->dm 274 [.slice b 0 (af j) (.known 2),.func 275 [] []] x λ_ g=>CH b j x g:=by
  intro x am;rcases co with h2|h2
  .rw[h2]at F r;have K:gI (f,a) (i,e) d=[(f,a)]:=by rcases F with h|h<;>exact h
   rw[K]at E;rw[r];exact auD (f,a) x b (.known 2) L am ae E
  .rw[h2]at F r;have K:af (gI (f,a) (i,e) d)=2:=b4;rw[K]at E;rw[r];exact auE (f,a) (i,e) zB a7 Q S dC dE _ F x b (.known 2) L am ae E
 rw[cd];simp only[go_sem];refine(awN n P j (λt q=>?_) (λt q=>?_) (λt q=>?_) cs G b (.known 2) L cb bo b2 aa c0).mono ?_
 .rcases O t q with rfl|rfl
  .exact l1
  .exact l2
 .rcases O t q with rfl|rfl
  .exact Q
  .exact S
 .rcases O t q with rfl|rfl
  .exact U
  .exact V
 rintro _ H4 ⟨k,M,m,rfl,c2,b0,d5,d4,ea,ed,d8⟩;have dl:H4.get H.ag=an [aj 0,.aA] 0:=b4;simp only[go_sem,be,dl];refine⟨k,M,m,rfl,c2.keep (aJ _) λy d3 s eh h=>?_,?_,aa,aa,λy s=>?_,aa,aa⟩
 .rw[ah.aT,ao aa];exact h
 .rw[ao aa];exact b0
 grind
def U(n i:Nat):av:=(aZ n 0).set i 1
def Z(n:Nat):av:=aZ n 0
def pR(n i:Nat)(a b:Rat):aF:=(a,U n i)::mg (b,Z n)
structure CJ (n i:Nat):Prop where
 hn:0<n/\n<=2
 hi:i<n
 l1:af (U n i)=n
 l2:af (Z n)=n
 s1:(U n i).sum<=24
 s2:(Z n).sum<=24
 alV:d6 (.agg (en (U n i))) (.agg (en (U n i)))=some true
 al0:d6 (.agg (en (Z n))) (.agg (en (Z n)))=some true
 hts:d6 (.agg (en (Z n))) (.agg (en (U n i)))=some false
 arK:ord (fY (U n i)) (fY (Z n))=1
 arL:ord (fY (Z n)) (fY (U n i))= -1
 Iz:rep [V.int .i64 0] n=bL (Z n)
 st:dj [V.int .i64 1] (bL (Z n)) i=some (bL (U n i))
def Fp(n i:Nat)(a:n=1\/n=2)(hi:i<n):CJ n i:=by have h:(n=1/\i=0)\/(n=2/\i=0)\/(n=2/\i=1):=aa;rcases h with⟨rfl,rfl⟩|⟨rfl,rfl⟩|⟨rfl,rfl⟩<;>exact⟨ai,ai,rfl,rfl,ai,ai,rfl,rfl,rfl,ai,ai,rfl,rfl⟩
variable{I:ah}{k:aF}{c:au}{Y:Cap}
def akH(g:0<d)(hl:0<af k)(h:nk b a d k c)(hT:b.get D=an c 0)(f:I.get D=.none)(e:∀y,a<=y->I.get y=.none):bS b I (.slice D 0 (af k) Y) (fq k):=by refine .row (m:=af k*2) (cs:=c) ?_ aa f (h.akL g e);rw[fO hT,dQ,je h.len]
def TQ(n i:Nat)(F:n=1\/n=2)(hi:i<n)(a s:aW)(c d:Rat)(A:numOf a=some c)(G:numOf s=some d)(L:af a<=500)(N:af s<=500)(B:c.num≠0)(ba:aM 1000 c)(bs:aM 1000 d):
 cU 99 [aj n,aj i,.str a,.str s] (gV n (pR n i c d)):=by
 have b:=Fp n i F hi;have p:=b.hn;have z:=b.Iz;have H:=b.st;have E:l_ 8 [aj 0] [aj n,aj n]=some (.new (bL (Z n)) (.slice n n)):=by rw[iG aa,<-z];simp
 have J:dO none 1 [.slice 6 0 n (.known n),aj i]=some (.val (.ptr 6 i)):=by rw[cH aa];simp
 have C:bA (gV n (pR n i c d)):=we n _;refine dg (.f4 .ii .ii .ss .ss) (bg apF ?_);simp only[go_sem,d99,aiI,aiH,aiG,E,J,H];have k:GT (((((dV.push (an [aj 0,.aA] 0)).push (an (bL (Z n)) 0)).set 6 (an (bL (U n i)) 0)).push (an (bL (Z n)) 0)).push (an [.str a,.slice 6 0 n (.known n),.str s,.slice 7 0 n (.known n)] 0)):=dh;obtain⟨e,g⟩:∃e,e=((((dV.push (an [aj 0,.aA] 0)).push (an (bL (Z n)) 0)).set 6 (an (bL (U n i)) 0)).push (an (bL (Z n)) 0)).push (an [.str a,.slice 6 0 n (.known n),.str s,.slice 7 0 n (.known n)] 0):=⟨_,rfl⟩;have u:e.get 5=an [aj 0,.aA] 0:=by rw[g];simp only[go_sem]
 have v:e.get 6=an (bL (U n i)) 0:=by rw[g];simp only[go_sem]
 have bp:e.get 7=an (bL (Z n)) 0:=by rw[g];simp only[go_sem]
 have hJ:e.get 8=an [.str a,.slice 6 0 n (.known n),.str s,.slice 7 0 n (.known n)] 0:=by rw[g];simp only[go_sem]
 have T:e.ag=9:=by rw[g];simp only[go_sem]
 rw[<-g]at k⊢;clear g;refine(aqC n ⟨p.1,aa⟩ a s c d A G L N B ba bs (U n i) (Z n) b.l1 b.l2 b.s1 b.s2 b.alV b.al0 b.hts b.arK b.arL e 8 6 7 (.known 2) k hJ v bp aa aa aa aa (pR n i c d) rfl).mono ?_;rintro _ f ⟨j,M,P,rfl,I,w,S,R,o,V,x⟩;have K:f.get 5=an [aj 0,.aA] 0:=by rw[o 5 aa,u]
 have D:GT f:=k.keep λy l=>o y aa
 have O:¬f.ag=5:=aa;simp only[go_sem,aiF,O,K];have m:∀y,6<=y->y<f.ag->(((f.push (an [aj 0,.aA] 0)).set f.ag (an [aj n,.slice j 0 (af (pR n i c d)) (.known (af (pR n i c d)))] 0)).set 5 (an [aj n,.slice j 0 (af (pR n i c d)) (.known (af (pR n i c d)))] 0)).get y=f.get y:=λy l q=>by have r:¬f.ag=y:=aa;have t:¬5=y:=aa;simp only[go_sem,r,t]
 refine⟨((D.push aa _).set aa _).set aa _,_,.agg (.f2 .mm (akH p.1 (by unfold pR;simp) (I.keep ff λy Q l q h=>(m y aa q).trans h) ((m j aa x).trans w) ?_ λy l=>?_)),C,rfl⟩
 .rw[ah.sq,lF,ao aa,ao aa,ao aa]
 .rw[ah.sq,lF,ao aa,ao aa,ao aa]
def Tt:aS:=(.c7 [ex 14 (mv (rd 12)),ex 15 (bz none 2 (rd 10) (rd 12)),ex 16 (bG true 2 (rd 15)),ex 8 (alloc [(.str []),(.str [])]),ex 7 (bJ (rd 14)),bD (st 2 (rd 8) (rd 16))])
def EK:aS:=(.seq (.c7 [ex 17 (fa 0 (rd 8)),ex 18 (bG false 1 (rd 17)),ex 19 (bs .neq (rd 18) (kc (.str [])))]) (.cond (rd 19) (.c7 [ex 20 (mv (rd 6)),ex 21 (fa 0 (rd 3)),ex 22 (bG false 1 (rd 21)),ex 23 (cr (rd 22)),ex 24 (mv (rd 7)),ex 25 (fa 0 (rd 8)),ex 26 (bG false 1 (rd 25)),ex 27 (bU 100 [(rd 26)]),re 22 (bG false 1 (rd 21)),ex 28 (bU 99 [(rd 23),(rd 24),(kc (.str [49])),(rd 27)]),ex 29 (cn 1 [(0,2)] [(aj 0),.aA] [(rd 28)]),ex 30 (ap 2 32 (rd 20) (rd 29)),ex 6 (bJ (rd 30))]) .skip))
def JS:aS:=(.c7 [ex 31 (fa 1 (rd 8)),ex 32 (bG false 1 (rd 31)),ex 33 (bs .neq (rd 32) (kc (.str [])))])
def JT:aS:=(.cond (rd 33) (.c7 [ex 34 (mv (rd 6)),ex 35 (fa 0 (rd 3)),ex 36 (bG false 1 (rd 35)),ex 37 (cr (rd 36)),ex 38 (mv (rd 7)),ex 39 (fa 1 (rd 8)),ex 40 (bG false 1 (rd 39)),ex 41 (bU 99 [(rd 37),(rd 38),(kc (.str [45,49])),(rd 40)]),ex 42 (cn 1 [(0,2)] [(aj 0),.aA] [(rd 41)]),ex 43 (ap 2 32 (rd 34) (rd 42)),ex 6 (bJ (rd 43))]) .skip)
def kX(H:ah):Prop:=∀y,y<5->H.get y=dV.get y
def kX.gt(h:kX b):GT b:=λy a e=>by rw[h y (Cc.cells e).1];exact e
def alS:kX dV:=λ_ _=>rfl
def kX.keep{H':ah}(h:kX b)(c:∀y,y<5->H'.get y=b.get y):kX H':=λy a=>(c y a).trans (h y a)
def kX.set(h:kX b)(c:5<=a)(o:dU):kX (b.set a o):=h.keep λy d=>by rw[ah.aT,ao aa]
def kX.push(h:kX b)(a:5<=b.ag)(o:dU):kX (b.push o):=h.keep λy c=>by rw[ah.bl,ao aa]
theorem kX.SC(h:kX b)(d:a<5)(c f:Nat):b.get a≠ .bV c f:=by
 rw[h a d,lF]
 grind
def kX.cells(h:kX b)(g:a<5)(e:b.get a=an c d):d=0:=by rw[h a g]at e;exact(Cc.cells e).2.1
def mJ(x:aW):Prop:=x=[]\/(numOf x=some (rv x)/\aM 81 (rv x)/\af x<=500)
variable{C:aW}
def mJ.num(h:mJ C)(a:C≠[]):numOf C=some (rv C)/\aM 81 (rv C)/\af C<=500:=h.resolve_left a
def Pu:dec 1=[49]:=aiL.2 rfl
theorem avP:aO (1:Rat)=[49]:=by unfold aO;rw[ao ai,show(1:Rat).num.natAbs=1 from rfl,Pu,ay (show(1:Rat).den=1 from rfl)];rfl
theorem avS:aO (-1:Rat)=[45,49]:=by unfold aO;rw[ay ai,show(-1:Rat).num.natAbs=1 from rfl,Pu,ay (show(-1:Rat).den=1 from rfl)];rfl
def wO:aM 1 1:=⟨ai,ai⟩
def Tb:aM 1 (-1):=⟨ai,ai⟩
theorem arH:numOf [49]=some 1:=by grind [rz,avP]
theorem arG:numOf [45,49]=some (-1):=by grind [rz,avS]
def wC(n i:Nat)(x:aW):List aF:=if x=[]then []else [pR n i 1 (-(rv x))]
def xV(n i:Nat)(x:aW):List aF:=if x=[]then []else [pR n i (-1) (rv x)]
variable{h:Rat}
def JG(b:aM a h):aM a (-h):=⟨by rw[Rat.neg_num,pY];exact b.num,by rw[Rat.neg_den];exact b.den⟩
def atp(n:Nat)(J:n=1\/n=2)(i:Nat)(hi:i<n)(lo hi':aW)(I:mJ lo)(bs:List e4)(G:af bs=n)(x:Nat)(v:V)(d:au)(g:Nat)(F:Fr)(H:ah)(R:b5)(K:cm)
 (A:rd 3 F=.ptr 6 0) (k:rd 6 F=v) (B:rd 7 F=aj i) (l:rd 8 F=.ptr x 0) (m:H.get 6=an [bE bZ bs] 0) (o:H.get x=an [.str lo,.str hi'] 0) (c:bn H 2 v d g) (W:af d<=1000) (b:kX H) (T:8<=H.ag) (U:x<H.ag)
 (q:∀e a w C,(∀t,t<13->t≠6->rd t e=rd t F)->rd 6 e=w->bn a 2 w (d++gA n (wC n i lo)) C->(∀y f,y<H.ag->H.get y=an f 0->a.get y=an f 0)->kX a->H.ag<=a.ag->K e a):
 bK EK (gy K R) F H:=by
 by_cases hl:lo=[]
 .subst hl;simp only[go_sem,EK,l,o,decide_true,jQ];refine q _ _ v g (λt M _=>?_) ?_ ?_ (λ_ _ _ h=>h) b (aJ _)
  .simp(disch:=omega)only[cX]
  .simp only[go_sem,k]
  .show bn H 2 v (d++[]) g;rw[hU];exact c
 .obtain⟨Q,p,E⟩:=I.num hl;have L:=ari lo E;have r:=TQ n i J hi [49] (aO (-(rv lo))) 1 (-(rv lo)) arH (rz _) ai (by have:=Ku (q:= -(rv lo)) ((JG p).mono ai);omega) ai (wO.mono ai) ((JG p).mono ai);have z:di (bE bZ bs)=some (.val (aj n)):=by rw[<-G];rfl
  have s:dI (ee n (pR n i 1 (-(rv lo))))=true:=rfl;unfold gV ee at r;unfold ee at s;simp only[go_sem,EK,A,k,B,l,m,o,bP hl,lS,z];refine bq L b.gt ?_;simp only[go_sem,m,true_and];refine bq r b.gt ?_;simp only[go_sem];refine kM (bytes:=32) c rfl ai s ⟨aa,ai⟩ λO P D N X u Y=>?_
  simp only[go_sem];refine q _ _ O D (λt M S=>?_) ?_ ?_ (λy f j h=>(u y j (c.ne h)).trans h) (b.keep λy j=>u y aa (c.xO (b.SC j))) aa
  .simp(disch:=omega)only[cX]
  .simp only[go_sem]
  .rw[wC,ao hl];simpa [gA,ee]using N
def EL:aS:=.seq JS JT
def atq(n:Nat)(K:n=1\/n=2)(i:Nat)(hi:i<n)(lo hi':aW)(J:mJ hi')(bs:List e4)(I:af bs=n)(x:Nat)(v:V)(d:au)(g:Nat)(F:Fr)(H:ah)(R:b5)
 (w:rd 3 F=.ptr 6 0) (k:rd 6 F=v) (z:rd 7 F=aj i) (l:rd 8 F=.ptr x 0) (C:H.get 6=an [bE bZ bs] 0) (m:H.get x=an [.str lo,.str hi'] 0) (c:bn H 2 v d g) (T:af d<=1000) (b:kX H) (Q:8<=H.ag) (S:x<H.ag)
 (o:∀e a s A,(∀t,t<13->t≠6->rd t e=rd t F)->rd 6 e=s->bn a 2 s (d++gA n (xV n i hi')) A->(∀y f,y<H.ag->H.get y=an f 0->a.get y=an f 0)->kX a->H.ag<=a.ag->R .norm e a):
 bK EL R F H:=by
 by_cases hl:hi'=[]
 .subst hl;simp only[go_sem,EL,JS,JT,l,m,decide_true,jQ];refine o _ _ v g (λt L _=>?_) ?_ ?_ (λ_ _ _ h=>h) b (aJ _)
  .simp(disch:=omega)only[cX]
  .simp only[go_sem,k]
  .show bn H 2 v (d++[]) g;rw[hU];exact c
 .obtain⟨D,E,G⟩:=J.num hl;have p:=TQ n i K hi [45,49] hi' (-1) (rv hi') arG D ai G ai (Tb.mono ai) (E.mono ai);have u:di (bE bZ bs)=some (.val (aj n)):=by rw[<-I];rfl
  have q:dI (ee n (pR n i (-1) (rv hi')))=true:=rfl;unfold gV ee at p;unfold ee at q;simp only[go_sem,EL,JS,JT,w,k,z,l,C,m,bP hl,lS,u];refine bq p b.gt ?_;simp only[go_sem];refine kM (bytes:=32) c rfl ai q ⟨aa,ai⟩ λN O B M U r W=>?_
  simp only[go_sem];refine o _ _ N B (λt L P=>?_) ?_ ?_ (λy f j h=>(r y j (c.ne h)).trans h) (b.keep λy j=>r y aa (c.xO (b.SC j))) aa
  .simp(disch:=omega)only[cX]
  .simp only[go_sem]
  .rw[xV,ao hl];simpa [gA,ee]using M
def WT:(pc 54 1)=(.seq (.block 1 (.seq Tt (.seq EK EL))) (pc 54 0)):=ahn
def kR(n:Nat):Nat->List e4->List aF
 |_,[]=>[]
 |j,s::l=>wC n j s.1++xV n j s.2++kR n (j+1) l
def Tu(n:Nat)(s:e4):∀(j:Nat) (l:List e4),kR n j (l++[s])=kR n j l++(wC n (j+af l) s.1++xV n (j+af l) s.2)
 |j,[]=>by simp[kR]
 |j,a::l=>by simp only[gv,kR,Tu n s (j+1) l,dZ,gX];rw[(aa:j+1+af l=j+(af l+1))]
def R8(n i:Nat)(x:aW):af (wC n i x)<=1:=by unfold wC;split<;>simp
def alQ(n i:Nat)(x:aW):af (xV n i x)<=1:=by unfold xV;split<;>simp
def EM(n:Nat):∀(j:Nat) (l:List e4),af (kR n j l)<=2*af l
 |_,[]=>aJ 0
 |j,s::l=>by have:=EM n (j+1) l;have:=R8 n j s.1;have:=alQ n j s.2;simp only[kR,bw,dZ];omega
variable{f:Type}
def Ce{l:List f}{t:f}(h:l[a]? =some t):l.take (a+1)=l.take a++[t]:=by obtain⟨b,rfl⟩:=jo.1 h;exact lT b
def K0(n:Nat)(bs:List e4)(a:au)(k:Nat)(F:Fr)(H:ah):Prop:=∃(i:Nat) (v:V) (g:Nat),k=n-i/\i<=n/\rd 2 F=.ptr 5 0/\rd 3 F=.ptr 6 0/\rd 4 F=.ptr 7 0/\rd 6 F=v/\rd 10 F=bE bZ bs/\rd 11 F=aj n/\rd 12 F=aj i/\
 H.get 5=an a 0/\H.get 6=an [bE bZ bs] 0/\H.get 7=an [.aA,aj 0,.aA,.aA,.aA] 0/\kX H/\8<=H.ag/\bn H 2 v (gA n (kR n 0 (bs.take i))) g
def atr(n:Nat)(M:n=1\/n=2)(bs:List e4)(J:af bs=n)(ar:∀s∈bs,mJ s.1/\mJ s.2)(z:au)(F:Fr)(H:ah)(R:b5)(k:Nat)(Z:K0 n bs z k F H)
 (hR:∀e c v g,rd 2 e=.ptr 5 0->rd 4 e=.ptr 7 0->rd 6 e=v->c.get 5=an z 0->c.get 6=an [bE bZ bs] 0->c.get 7=an [.aA,aj 0,.aA,.aA,.aA] 0->kX c->8<=c.ag->bn c 2 v (gA n (kR n 0 bs)) g->R (.exit 0) e c):
 bK (.loop (pc 54 3)) R F H:=by
 refine b8 (K0 n bs z) k Z ?_;rintro m a4 a ⟨i,v,g,rfl,a7,C,q,D,E,B,o,p,G,j,bp,I,am,u⟩;rw[aho];by_cases L:i<n
 .obtain⟨s,x⟩:∃s,bs[i]? =some s:=⟨bs[i],c4 aa⟩;have aw:=ar s (fL x);have A:=jO mm x;have r:decide ((i:Int)<(n:Int))=true:=b3 aa;have w1:aE .i64 ((i:Int)+1)=((i+1:Nat):Int):=by rw[aK _ aa];rfl
  have ae:=iq (f:=bZ) (k:=2) (l:=bs) (i:=(i:Int)) (ik:=.i64) aa;have a0:=EM n 0 (bs.take i);rw[e8]at a0;have a9:=uh n (kR n 0 (bs.take i));obtain⟨lo,hi⟩:=s;obtain⟨O,P⟩:=aw;simp only at O P;simp only[bZ]at A;simp only[go_sem,Pb,WT,Tt,B,o,p,r,ae,cg,A];have bb:¬a.ag=5:=aa;have bc:¬a.ag=6:=aa;have bd:¬a.ag=7:=aa;have w:∀y,y<a.ag->((a.push (an [.str [],.str []] 0)).set a.ag (an [.str lo,.str hi] 0)).get y=a.get y:=λy N=>by rw[ah.aT,ao aa,ah.bl,ao aa]
  refine atp n M i L lo hi O bs J a.ag v _ g _ _ _ _ ?_ ?_ ?_ ?_ ?_ ?_ (u.low w ff) aa ((I.push aa _).set aa _) ?_ ?_ ?_
  iterate 4 simp only[go_sem,q,E]
  .rw[w 6 aa];exact j
  .simp only[go_sem]
  .simp only[go_sem];omega
  .simp only[go_sem];omega
  intro a5 S v2 W b U ac K X ap;simp only[go_sem]at ap;have ll:=R8 n i lo;have a':=uh n (wC n i lo);have l:∀y f,y<a.ag->a.get y=an f 0->S.get y=an f 0:=λy f N h=>K y f ff ((w y N).trans h)
  refine atq n M i L lo hi P bs J a.ag v2 _ W _ _ _ ?_ U ?_ ?_ (l 6 _ aa j) ?_ ac ?_ X aa aa ?_
  .rw[b 3 ai ai];simp only[go_sem,q]
  .rw[b 7 ai ai];simp only[go_sem]
  .rw[b 8 ai ai];simp only[go_sem]
  .refine K _ _ ff ?_;simp only[go_sem]
  .rw[bw];omega
  intro Q H3 v3 g3 d V ad t Y a8;have T:rd 12 Q=aj i:=by rw[d 12 ai ai,b 12 ai ai];simp only[go_sem,p]
  simp only[go_sem,ahm,T,w1];refine⟨n-(i+1),aa,i+1,v3,g3,rfl,aa,?_,?_,?_,?_,?_,?_,?_,t _ _ aa (l _ _ aa G),t _ _ aa (l _ _ aa j),t _ _ aa (l _ _ aa bp),Y,aa,?_⟩
  .simp only[go_sem];rw[d 2 ai ai,b 2 ai ai];simp only[go_sem,C]
  .simp only[go_sem];rw[d 3 ai ai,b 3 ai ai];simp only[go_sem,q]
  .simp only[go_sem];rw[d 4 ai ai,b 4 ai ai];simp only[go_sem,D]
  .simp only[go_sem];exact V
  .simp only[go_sem];rw[d 10 ai ai,b 10 ai ai];simp only[go_sem,B]
  .simp only[go_sem];rw[d 11 ai ai,b 11 ai ai];simp only[go_sem,o]
  .simp only[go_sem]
  .rw[Ce x,Tu,e8,eW,p7 aa,yu,yu,<-gX];exact ad
 .have al:i=n:=aa;subst al;have r:decide ((i:Int)<(i:Int))=false:=bP aa;rw[dr aa]at u;simp only[go_sem,Pb,o,p,r];refine hR _ _ v g ?_ ?_ ?_ G j bp I am u
  iterate 3 simp only[go_sem,C,D,E]
def arW(n i:Nat)(a:n=1\/n=2)(hi:i<n):ord (U n i) (Z n)=1:=by have h:(n=1/\i=0)\/(n=2/\i=0)\/(n=2/\i=1):=aa;rcases h with⟨rfl,rfl⟩|⟨rfl,rfl⟩|⟨rfl,rfl⟩<;>decide
def TP(n i:Nat)(g:n=1\/n=2)(hi:i<n)(c d:Rat)(e:aM 100 c)(f:c.num≠0)(h:aM 100 d):mC n (pR n i c d):=by
 have a:=Fp n i g hi;unfold pR mg;by_cases b:d.num=0
 .rw[ay b];exact⟨λt ht=>by rw[fj.1 ht];exact⟨e,f,a.l1,a.s1⟩,List.pairwise_singleton _ _,aI⟩
 .rw[ao b];refine⟨λt ht=>?_,?_,aI⟩
  .rcases jr.1 ht with rfl|ht
   .exact⟨e,f,a.l1,a.s1⟩
   .rw[fj.1 ht];exact⟨h,b,a.l2,a.s2⟩
  .refine uz.2 ⟨λt ht=>?_,List.pairwise_singleton _ _⟩;rw[fj.1 ht];exact arW n i g hi
def JU(n:Nat)(b:n=1\/n=2):∀(j:Nat) (l:List e4),j+af l<=n->(∀s∈l,mJ s.1/\mJ s.2)->∀q∈kR n j l,mC n q
 |_,[],_,_,q,hq=>by cases hq
 |j,s::l,e,d,q,hq=>by
  rw[dZ]at e;have a:=d s aI;rw[kR]at hq;rcases ki.1 hq with hq|hq
  .rcases ki.1 hq with hq|hq
   .unfold wC at hq;split at hq
    .cases hq
    .rename_i c;rw[fj.1 hq];exact TP n j b aa _ _ (wO.mono ai) ai ((JG (a.1.num c).2.1).mono ai)
   .unfold xV at hq;split at hq
    .cases hq
    .rename_i c;rw[fj.1 hq];exact TP n j b aa _ _ (Tb.mono ai) ai ((a.2.num c).2.1.mono ai)
  .exact JU n b (j+1) l aa (λs a=>d s (by simp[a])) q hq
def atc(p:fM)(h:p.aG)(bs:List e4)(k:af bs=p.n)(o:∀s∈bs,mJ s.1/\mJ s.2):cU 54 [hC p,ia bs] (.aH [nq p.n p.obj (p.is++kR p.n 0 bs) p.es,aj 0]):=by
 have c:=h.n;have J:=EM p.n 0 bs;have E:=JU p.n c 0 bs aa o;have d:=ajX p h (kR p.n 0 bs) E aa;have C:bA (.aH [nq p.n p.obj (p.is++kR p.n 0 bs) p.es,aj 0]):=.aH (.f2 (xP _ c _ _ _) .ii);refine dg (.f2 (q2 p c) (qg bs)) (C4 hT b_ fI RK.1 RK.2 (by kernel_rfl) 3 50 rfl rfl ?_);unfold hC ia;simp only[go_sem,d54,ahr,ahq,aS.cutAt,k];refine atr p.n c bs k o (vU p) _ _ _ p.n ⟨0,.aA,0,rfl,cj _,?_,?_,?_,?_,?_,?_,?_,?_,?_,?_,?_,?_,.nil⟩ ?_
 iterate 6 simp only[go_sem]
 .simp only[go_sem];rfl
 .simp only[go_sem];rfl
 iterate 2 simp only[go_sem]
 .exact((alS.push ai _).push (by simp only[go_sem];decide) _).push (by simp only[go_sem];decide) _
 .simp only[go_sem];decide
 intro a b v g w x z i A bp j I D;have m:∀y f g,y<8->b.get y=an f g->g=0:=λy f g F e=>by
  by_cases B:y<5
  .exact j.cells B e
  .rcases(aa:y=5\/y=6\/y=7)with rfl|rfl|rfl
   .rw[i]at e;cases e;rfl
   .rw[A]at e;cases e;rfl
   .rw[bp]at e;cases e;rfl
 rw[gb];simp only[go_sem];refine Ft (b.low 8) (λt=>if t=6 then dc p.n (kR p.n 0 bs)else if t=2\/t=4 then rd t a else .any) (C_ ai m) (λt K=>?_) ?_
 .show bS _ _ _ (if t=6 then _ else _);by_cases h:t=6
  .subst h;rw[ay rfl,z];exact D.A3 ai m (uh _ _)
  .rw[ao h];split
   .exact .same _
   .exact .any _
 have q:rd 2 (mI (λt=>if t=6 then dc p.n (kR p.n 0 bs)else if t=2\/t=4 then rd t a else .any) 50)=.ptr 5 0:=by rw[qu _ ai];exact w
 have r:rd 4 (mI (λt=>if t=6 then dc p.n (kR p.n 0 bs)else if t=2\/t=4 then rd t a else .any) 50)=.ptr 7 0:=by rw[qu _ ai];exact x
 have u:rd 6 (mI (λt=>if t=6 then dc p.n (kR p.n 0 bs)else if t=2\/t=4 then rd t a else .any) 50)=dc p.n (kR p.n 0 bs):=by rw[qu _ ai];rfl
 generalize mI (λt=>if t=6 then dc p.n (kR p.n 0 bs)else if t=2\/t=4 then rd t a else .any) 50=H at q r u
 have G:(b.low 8).get 5=an (vU p) 0:=by rw[ah.kN,ay ai];exact i
 have eB:(b.low 8).get 7=an [.aA,aj 0,.aA,.aA,.aA] 0:=by rw[ah.kN,ay ai];exact bp
 have l:GT (b.low 8):=j.gt.keep λy F=>by rw[ah.kN,ay aa]
 unfold hC at d;unfold nq jb at d;simp only[go_sem,ahp,q,u,G,vU];refine bq d l ?_;simp only[go_sem,r,eB];exact bO (l.set ai _) rfl C
def UJ:aS:=(.c7 [ex 17 (bz none 2 (rd 13) (rd 15)),ex 18 (bG true 2 (rd 17)),ex 6 (alloc [(.str []),(.str [])]),bD (st 2 (rd 6) (rd 18))])
def Cq:aS:=(.seq (.c7 [ex 19 (fa 0 (rd 6)),ex 20 (bG false 1 (rd 19)),ex 21 (bs .neq (rd 20) (kc (.str []))),ex 22 (mv (rd 21)),bB 22 true 23 (fa 0 (rd 6)),bB 22 true 24 (bG false 1 (rd 23)),bB 22 true 25 (bU 72 [(rd 24)]),bB 22 true 26 (not (rd 25)),ex 27 (pick (rd 22) (rd 26) (kc aR)),ex 28 (mv (rd 27)),bB 28 false 29 (fa 1 (rd 6)),bB 28 false 30 (bG false 1 (rd 29)),bB 28 false 31 (bs .neq (rd 30) (kc (.str []))),bB 28 false 32 (mv (rd 31)),bB 32 true 33 (fa 1 (rd 6)),bB 32 true 34 (bG false 1 (rd 33)),bB 32 true 35 (bU 72 [(rd 34)]),bB 32 true 36 (not (rd 35)),bB 28 false 37 (pick (rd 32) (rd 36) (kc aR)),ex 38 (pick (rd 28) (kc cY) (rd 37))]) (.cond (rd 38) (.seq (.c7 [ex 4 (bJ (kc aR))]) .ret) .skip))
def Fq:aS:=(.c7 [ex 39 (fa 0 (rd 6)),ex 40 (bG false 1 (rd 39)),ex 41 (bs .neq (rd 40) (kc (.str []))),ex 42 (mv (rd 41)),bB 42 true 43 (fa 1 (rd 6)),bB 42 true 44 (bG false 1 (rd 43)),bB 42 true 45 (bs .neq (rd 44) (kc (.str []))),ex 46 (pick (rd 42) (rd 45) (kc aR)),ex 47 (mv (rd 46)),bB 47 true 48 (fa 0 (rd 6)),bB 47 true 49 (bG false 1 (rd 48)),bB 47 true 50 (fa 1 (rd 6)),bB 47 true 51 (bG false 1 (rd 50)),bB 47 true 52 (bU 57 [(rd 49),(rd 51)]),bB 47 true 53 (bi .geq (rd 52) (kc (aj 0))),ex 54 (pick (rd 47) (rd 53) (kc aR))])
def Fs:aS:=(.cond (rd 54) (.seq (.c7 [ex 4 (bJ (kc aR))]) .ret) .skip)
def Cr:aS:=.seq Fq Fs
def WU:(pc 61 1)=(.seq (.block 1 (.seq UJ (.seq Cq Cr))) (pc 61 0)):=ahN
def tQ(x:aW):Bool:=decide (x=[])||(numOf x).isSome
def sU(s:e4):Bool:=(tQ s.1&&tQ s.2)&& !((!decide (s.1=[])&& !decide (s.2=[]))&& !decide (e6 (rv s.1-rv s.2)<0))
def awm(lo hi:aW)(o:af lo<=500)(n:af hi<=500)(x:Nat)(F:Fr)(H:ah)(K:cm)(R:b5)(f:rd 6 F=.ptr x 0)(g:H.get x=an [.str lo,.str hi] 0)(h:GT H)
 (a:(tQ lo&&tQ hi)=true->∀d,(∀t,t<16->rd t d=rd t F)->K d H) (b:(tQ lo&&tQ hi)=false->∀d,rd 4 d=aR->R .ret d H):
 bK Cq (gy K R) F H:=by
 have m:=vw lo o;have j:=vw hi n;obtain⟨p,k⟩:∃p,p=(numOf lo).isSome:=⟨_,rfl⟩;obtain⟨q,l⟩:∃q,q=(numOf hi).isSome:=⟨_,rfl⟩;unfold tQ at a b;rw[<-k,<-l]at a b;rw[<-k]at m;rw[<-l]at j;by_cases e:lo=[]
 .rw[b3 e]at a b;by_cases c:hi=[]
  .rw[b3 c]at a b;simp only[go_sem,Cq,f,g,b3 e,b3 c,jQ];exact a rfl _ λt i=>by simp(disch:=omega)only[cX]
  .rw[bP c]at a b;simp only[go_sem,Cq,f,g,b3 e,bP c,jQ,lS];refine bq j h ?_;cases q
   .simp only[go_sem,lS];exact b rfl _ eJ
   .simp only[go_sem,jQ];exact a rfl _ λt i=>by simp(disch:=omega)only[cX]
 .rw[bP e]at a b;simp only[go_sem,Cq,f,g,bP e,lS];refine bq m h ?_;cases p
  .simp only[go_sem,lS];exact b rfl _ eJ
  .by_cases c:hi=[]
   .rw[b3 c]at a b;simp only[go_sem,f,g,b3 c,jQ];exact a rfl _ λt i=>by simp(disch:=omega)only[cX]
   .rw[bP c]at a b;simp only[go_sem,f,g,bP c,jQ,lS];refine bq j h ?_;cases q
    .simp only[go_sem,lS];exact b rfl _ eJ
    .simp only[go_sem,jQ];exact a rfl _ λt i=>by simp(disch:=omega)only[cX]
def awn(lo hi:aW)(o:af lo<=500)(n:af hi<=500)(j:aM 100 (rv lo))(k:aM 100 (rv hi))(x:Nat)(F:Fr)(H:ah)(R:b5)(g:rd 6 F=.ptr x 0)(h:H.get x=an [.str lo,.str hi] 0)(m:GT H)
 (a:((!decide (lo=[])&& !decide (hi=[]))&& !decide (e6 (rv lo-rv hi)<0))=false->∀c,(∀t,t<16->rd t c=rd t F)->R .norm c H)
 (b:((!decide (lo=[])&& !decide (hi=[]))&& !decide (e6 (rv lo-rv hi)<0))=true->∀c,rd 4 c=aR->R .ret c H):
 bK Cr R F H:=by
 have l:=tA lo hi o n j k ai;by_cases d:lo=[]
 .rw[b3 d]at a b;simp only[go_sem,Cr,Fq,Fs,g,h,b3 d,jQ];exact a rfl _ λt i=>by simp(disch:=omega)only[cX]
 .rw[bP d]at a b;by_cases e:hi=[]
  .rw[b3 e]at a b;simp only[go_sem,Cr,Fq,Fs,g,h,bP d,b3 e,jQ,lS];exact a rfl _ λt i=>by simp(disch:=omega)only[cX]
  .rw[bP e]at a b;simp only[go_sem,Cr,Fq,Fs,g,h,bP d,bP e,lS];refine bq l m ?_;by_cases f:e6 (rv lo-rv hi)<0
   .rw[b3 f]at a;simp only[go_sem,b3 f,jQ];exact a rfl _ λt i=>by simp(disch:=omega)only[cX]
   .rw[bP f]at b;simp only[go_sem,bP f,lS];exact b rfl _ eJ
def BZ(s:e4):Prop:=s.1.length<=20/\s.2.length<=20
def K5(l:List e4)(a:Fr)(k:Nat)(F:Fr)(H:ah):Prop:=∃i:Nat,k=af l-i/\i<=af l/\rd 2 F=.ptr 5 0/\rd 13 F=bE bZ l/\rd 14 F=aj (af l)/\rd 15 F=aj i/\GT H/\6<=H.ag/\(l.take i).all sU=true
def awo(l:List e4)(S:∀s∈l,BZ s)(hl:af l<=1000)(F:Fr)(H:ah)(R:b5)(k:Nat)(M:K5 l F k F H)
 (N:l.all sU=true->∀f b,GT b->R (.exit 0) f b) (C:l.all sU=false->∀f b,rd 4 f=aR->GT b->R .ret f b):
 bK (.loop (pc 61 3)) R F H:=by
 refine b8 (K5 l F) k M ?_;rintro m U g ⟨i,rfl,V,L,A,n,o,D,W,q⟩;rw[ahO];by_cases Q:i<af l
 .obtain⟨s,v⟩:∃s,l[i]? =some s:=⟨l[i],c4 Q⟩;have E:=fL v;obtain⟨G,I⟩:=S s E;have z:=jO mm v;have r:decide ((i:Int)<(af l:Int))=true:=b3 aa;have T:aE .i64 ((i:Int)+1)=((i+1:Nat):Int):=by rw[aK _ aa];rfl
  have O:=iq (f:=bZ) (k:=2) (l:=l) (i:=(i:Int)) (ik:=.i64) aa;have a:sU s=false->l.all sU=false:=λh=>by rw[mo];intro B;rw[qJ]at B;rw[B s E]at h;cases h
  have e:sU s=true->(l.take (i+1)).all sU=true:=λh=>by rw[Ce v,List.all_append,q];simp[h]
  have x:aM 100 (rv s.1):=(BW (L:=20) G).mono ai;have y:aM 100 (rv s.2):=(BW (L:=20) I).mono ai;obtain⟨lo,hi⟩:=s;simp only at G I x y;unfold sU at a e;simp only at a e;simp only[bZ]at z;have d:GT ((g.push (an [.str [],.str []] 0)).set g.ag (an [.str lo,.str hi] 0)):=(D.push aa _).set aa _;simp only[go_sem,Pe,WU,UJ,A,n,o,r,O,cg,z];refine awm lo hi aa aa g.ag _ _ _ _ ?_ ?_ d ?_ ?_
  iterate 2 simp only[go_sem]
  .intro t J c;rw[t]at a e;refine awn lo hi aa aa x y g.ag _ _ _ ?_ ?_ d ?_ ?_
   .rw[c 6 ai];simp only[go_sem]
   .simp only[go_sem]
   .intro u w j;rw[u]at e;have K:rd 15 w=aj i:=by rw[j 15 ai,c 15 ai];simp only[go_sem,o]
    simp only[go_sem,ahM,K,T];refine⟨af l-(i+1),aa,i+1,rfl,aa,?_,?_,?_,?_,d,by(simp only[go_sem];omega),e rfl⟩
    .simp only[go_sem];rw[j 2 ai,c 2 ai];simp only[go_sem,L]
    .simp only[go_sem];rw[j 13 ai,c 13 ai];simp only[go_sem,A]
    .simp only[go_sem];rw[j 14 ai,c 14 ai];simp only[go_sem,n]
    .simp only[go_sem]
   .intro u w p;rw[u]at a;exact C (a rfl) _ _ p d
  .intro t J p;rw[t]at a;exact C (a rfl) _ _ p d
 .have P:i=af l:=aa;subst P;have r:decide ((af l:Int)<(af l:Int))=false:=bP aa;rw[dr (aJ _)]at q;simp only[go_sem,Pe,n,o,r];exact N q _ _ D
def Ab(n:Nat)(l:List e4):Bool:=decide (af l=n)&&l.all sU
def av'(n:Nat)(l:List e4)(h:∀s∈l,BZ s)(hl:af l<=1000):cU 61 [ia l,aj n] (.bool (Ab n l)):=by
 refine dg (.f2 (qg l) .ii) (bg apn ?_);have g:decide ((af l:Int)=(n:Int))=decide (af l=n):=decide_eq_decide.2 aa;unfold ia Ab;simp only[go_sem,d61,ahR];rw[g];by_cases c:af l=n
 .rw[b3 c];simp only[go_sem,ahQ,jQ];refine awo l h hl _ _ _ (af l) ⟨0,rfl,cj _,?_,?_,?_,?_,dh,?_,rfl⟩ ?_ ?_
  iterate 3 simp only[go_sem]
  .simp only[go_sem];rfl
  .exact aJ 6
  .intro a d e b;simp only[go_sem,ahP,a];exact bO b rfl (.bool _)
  .intro a d e f b;simp only[go_sem,a,f];exact bO b rfl (.bool _)
 .rw[bP c];simp only[go_sem,lS,Bool.false_and];exact bO dh rfl (.bool _)
def av7(p:fM)(h:p.aG)(l:List e4)(d:∀s∈l,BZ s)(hl:af l<=1000):cU 17 [hC p,ia l] (.bool (Ab p.n l)):=by have b:=UD p h;have a:=av' p.n l d hl;have c:di (fl p.n)=some (.val (aj p.n)):=rfl;refine dg (.f2 (q2 p h.n) (qg l)) (bg D8 ?_);unfold hC at b⊢;unfold ia at a⊢;simp only[go_sem,d17,abx];refine bq b dh ?_;simp only[go_sem,c];refine bq a dh ?_;simp only[go_sem];exact bO dh rfl (.bool _)
def qe(s:e4):Bool:= !(decide (s.1=[])||decide (s.2=[]))
@[go_sem]theorem ay6(x:V):oL [.func 103 [] [],x]=some (.fn 103,[x]):=rfl
def art(s:e4):bm 103 [.agg (bZ s)] (.bool (!qe s)):=by
 refine dM (.f1 (.agg (lZ s))) (.bool _) (bg ank ?_);unfold qe;by_cases a:s.1=[]
 .simp only[go_sem,d103,M3,bZ,b3 a,Bool.true_or]
 .simp only[go_sem,d103,M3,bZ,bP a,Bool.false_or,Bool.not_not]
def Vd(l:List e4)(k:Nat)(F:Fr)(H:ah):Prop:=∃i:Nat,k=af l-i/\i<=af l/\rd 0 F=bE bZ l/\rd 1 F=.func 103 [] []/\rd 7 F=aj (af l)/\rd 8 F=aj i/\(l.take i).all qe=true
def amc(l:List e4)(hl:af l<=1000)(H:ah):dm 159 [bE bZ l,.func 103 [] []] H λv g=>(∃r:Int,v=aj r/\decide (r<0)=l.all qe)/\g=H:=by
 refine rB (R:=λv=>∃r:Int,v=aj r/\decide (r<0)=l.all qe) (.f2 (hH lZ l) (.func 103 .nil .nil)) (bg anP ?_) H;simp only[go_sem,d159,aa4];refine b8 (Vd l) (af l) ⟨0,rfl,cj _,?_,?_,?_,?_,rfl⟩ ?_
 iterate 3 simp only[go_sem]
 .simp only[go_sem];rfl
 rintro m w g ⟨i,rfl,x,h,j,a,b,c⟩;rw[aa2];by_cases t:i<af l
 .obtain⟨s,f⟩:∃s,l[i]? =some s:=⟨l[i],c4 t⟩;have n:=jO mm f;have e:decide ((i:Int)<(af l:Int))=true:=b3 aa;have u:aE .i64 ((i:Int)+1)=((i+1:Nat):Int):=by rw[aK _ aa];rfl
  have p:=iq (f:=bZ) (k:=2) (l:=l) (i:=(i:Int)) (ik:=.i64) aa;simp only[go_sem,Ns,aa1,h,j,a,b,e,p,cg,n];refine use (art s) ?_;cases d:qe s with
  |true=>
   simp only[go_sem,aa0,jQ,b,u];refine⟨af l-(i+1),aa,i+1,rfl,aa,?_,?_,?_,?_,?_⟩
   iterate 4 simp only[go_sem,h,j,a]
   .rw[Ce f,List.all_append,c];simp[d]
  |false=>
   simp only[go_sem,lS];refine⟨_,.same _,.int _ _,_,rfl,?_⟩;have o:l.all qe=false:=by rw[mo];intro k;rw[qJ]at k;rw[k s (fL f)]at d;cases d
   rw[o,bP aa]
 .have q:i=af l:=aa;subst q;have e:decide ((af l:Int)<(af l:Int))=false:=bP aa;rw[dr (aJ _)]at c;simp only[go_sem,Ns,aa3,a,b,e];exact⟨_,.same _,.int _ _,_,rfl,by rw[c];rfl⟩
def XO(l:List e4)(hl:af l<=1000):bm 102 [bE bZ l,.func 103 [] []] (.bool (!l.all qe)):=by refine dM (.f2 (hH lZ l) (.func 103 .nil .nil)) (.bool _) (bg anj ?_);simp only[go_sem,d102,Yt];refine(amc l hl _).mono ?_;rintro _ _ ⟨⟨r,rfl,a⟩,rfl⟩;simp only[go_sem,a]
def Wx(l:List e4)(hl:af l<=1000):bm 55 [ia l] (.bool (l.all qe)):=by refine dM (.f1 (qg l)) (.bool _) (bg aph ?_);unfold ia;simp only[go_sem,d55,ahs];refine use (XO l hl) ?_;simp only[go_sem,Bool.not_not]
def amr(n i:Nat)(c:CJ n i)(e:b.get a=an (bL (Z n)) 0)(d:I.get a=.none):bS b I (.slice a 0 n (.known n)) (bf (Z n)):=by unfold bf;rw[c.l2];refine .row (m:=n) (cs:=bL (Z n)) ?_ c.hn.1 d (dn.refl _);rw[fO e,dQ,je (by rw[jz,c.l2])]
def amq(n i:Nat)(c:CJ n i)(e:b.get a=an (bL (U n i)) 0)(d:I.get a=.none):bS b I (.slice a 0 n (.known n)) (bf (U n i)):=by unfold bf;rw[c.l1];refine .row (m:=n) (cs:=bL (U n i)) ?_ c.hn.1 d (dn.refl _);rw[fO e,dQ,je (by rw[jz,c.l1])]
def Ul{e n:Nat}{c:Cap}{t:b9}(f:b.get a=an [.bool (decide (t.1.num<0)),mag (aU t.1.num.natAbs),aR,mag (aU (dd t.1)),.slice e 0 n c] 0)(d:I.get a=.none)(g:bS b I (.slice e 0 n c) (bf t.2)):bS b I (.slice a 0 1 Y) (bN [t]):=by refine .row (m:=5) (cs:=[.bool (decide (t.1.num<0)),mag (aU t.1.num.natAbs),aR,mag (aU (dd t.1)),.slice e 0 n c]) ?_ ai d (.f5 .mm .mm .mm .mm g);rw[fO f];rfl
def awc(n i:Nat)(e:n=1\/n=2)(hi:i<n):bm 51 [aj n,aj i] (d_ n [(1,U n i)]):=by
 have a:=Fp n i e hi;have h:=a.hn;have c:=a.Iz;have f:=a.st;have d:l_ 8 [aj 0] [aj n,aj n]=some (.new (bL (Z n)) (.slice n n)):=by rw[iG aa,<-c];simp
 have g:dO none 1 [.slice 6 0 n (.known n),aj i]=some (.val (.ptr 6 i)):=by rw[cH aa];simp
 have b:=BK 1 ai;rw[show((1:Int):Rat)=1 from rfl]at b;unfold bR bk at b;refine gR (.f2 .ii .ii) (bg ape ?_);simp only[go_sem,d51,ahj,ahi,ahh,d,g,f];refine use b ?_;simp only[go_sem];refine⟨_,.agg (.f2 .mm (Ul (t:=(1,U n i)) (e:=6) (n:=n) (c:=.known n) ?_ m7 (amq n i a ?_ m7))),kA n _,rfl⟩
 iterate 2 simp only[go_sem]
def ajQ(n i:Nat)(a:CJ n i)(c d:Rat):j0 n [(c,U n i)]/\j0 n [(d,Z n)]:=⟨λt b=>by rw[fj.1 b];exact⟨a.l1,c5 a.s1 ai⟩,λt b=>by rw[fj.1 b];exact⟨a.l2,c5 a.s2 ai⟩⟩
def GC(n i:Nat)(p:n=1\/n=2)(hi:i<n)(q:Rat)(r:aM 100 q):bm 64 [aj n,bR q] (d_ n (f_ [(q,Z n)])):=by
 have d:=Fp n i p hi;have w:=d.hn;have m:=d.Iz;have o:l_ 8 [aj 0] [aj n,aj n]=some (.new (bL (Z n)) (.slice n n)):=by rw[iG aa,<-m];simp
 have u:=z1 [(q,Z n)] n 100 n aa (ajQ n i d 0 q).2 (λt v=>by rw[fj.1 v];exact r) aI aI;refine gR (.f2 .ii (ij _)) (bg apq ?_);unfold bR bk;simp only[go_sem,d64,ahY,o];obtain⟨a,c⟩:∃a,a=((((ah.zero 5).push (an [.bool (decide (q.num<0)),mag (aU q.num.natAbs),aR,mag (aU (dd q))] 0)).push (an [aj 0,.aA] 0)).push (an (bL (Z n)) 0)).push (an [.bool (decide (q.num<0)),mag (aU q.num.natAbs),aR,mag (aU (dd q)),.slice 7 0 n (.known n)] 0):=⟨_,rfl⟩;have l:a.get 6=an [aj 0,.aA] 0:=by rw[c];simp only[go_sem]
 have bp:a.get 7=an (bL (Z n)) 0:=by rw[c];simp only[go_sem]
 have hJ:a.get 8=an [.bool (decide (q.num<0)),mag (aU q.num.natAbs),aR,mag (aU (dd q)),.slice 7 0 n (.known n)] 0:=by rw[c];simp only[go_sem]
 rw[<-c];clear c;have h:vS a [aj n,.slice 8 0 1 (.known 1)] 8:=.arg (pq _ (fj.2 rfl));have s:vS a [aj n,.slice 8 0 1 (.known 1)] 7:=.cell h hJ (o:=0) (n:=n) (c:=.known n) aI;have j:((a.set 8 .none).set 7 .none).get 7=.none:=eJ;have k:((a.set 8 .none).set 7 .none).get 8=.none:=eJ;refine(W0 (H:=a) [8,7] ((a.set 8 .none).set 7 .none) (λb g=>?_) (λy=>?_) rfl (.f2 .mm (Ul (t:=(q,Z n)) hJ k (amr n i d bp j))) (u _)).mono ?_
 .simp only[jr,rV,or_false]at g;rcases g with rfl|rfl
  .exact⟨⟨_,hJ⟩,h⟩
  .exact⟨⟨_,bp⟩,s⟩
 .rw[ah.aT,ah.aT];by_cases e:7=y
  .subst e;rfl
  .by_cases f:8=y
   .subst f;rfl
   .rw[ao e,ao f,ao (by simp only[jr,rV,or_false];omega)]
 rintro _ _ ⟨rfl,rfl⟩;simp only[go_sem,d_,fZ,l];exact⟨_,.same _,kA n _,rfl⟩
variable{l:V}
def P9{sz bytes n:Nat}{cs:au}(g:b.get a=an [] 0)(f:lI l=some n)(i:eu b sz n l=some cs)(q:0<n)(h:af cs=n*sz)(r:0<sz)(k:n<=1073741824/\bytes<=1024)
 (m:∀d c,bn c sz d cs (b.ag+1)->(∀y,y<b.ag->c.get y=b.get y)->c.ag=b.ag+2->s (put j x d) c):gW x s j (fU sz bytes [.slice a 0 0 (.known 0),l] b):=by
 have e:fU sz bytes [.slice a 0 0 (.known 0),l] b=lG b sz n cs:=by
  show aq (lI l) (λn=>aq (eu b sz n l) λo=>ku sz bytes (.slice a 0 0 (.known 0)) n o b)=_;rw[f];show aq (eu b sz n l) _=_;rw[i];show Bool.casesOn (motive:=λ_=>Option (V×ah)) (fN n) (aX (jx (0+n) bytes) (Bool.casesOn (motive:=λ_=>Option (V×ah)) (b6 (0+n) 0) (aq (b.dz a 0 (0*sz)) λp=>lG b sz (0+n) (dJ p cs)) (aq (b.fe a (0+0*sz) cs) λb=>some (V.slice a 0 (0+n) (.known 0),b)))) _=_;rw[sv aa,q5 ⟨aa,c5 (iP (aa:0+n<=1073741824) k.2) ai⟩,show b6 (0+n) 0=false from by
   cases n with
   |zero=>omega
   |succ n=>rw[eW];rfl,fO g]
  simp only[j4,dQ,Bi,By,Eu,Eb,eW]
 rw[e];refine m _ _ (.cells (f:=b.ag) ?_ ?_ (aJ _) aa h ?_ ?_) (λy t=>?_) rfl
 .rw[ah.bl,ao (by show¬(b.ag+1=b.ag);omega),ah.bl,ay rfl]
 .rw[ah.bl,ay (show(b.push (an cs (Nat.succ b.ag))).ag=b.ag+1 from rfl)]
 .show b.ag+1<b.ag+1+1;omega
 .show b.ag<b.ag+1+1;omega
 .rw[ah.bl,ao (by show¬(b.ag+1=y);omega),ah.bl,ao aa]
def ar_(n:Nat)(l:au)(c:Rat)(u:b9)(hc:aM d c)(hu:aM m u.1)(hk:d+m<=30000000)(a6:af l<=1000)(v:V)(F:Fr)(H:ah)(R:b5)
 (hv:(∃g,bn H 5 v l g)\/(l=[]/\v=.slice 9 0 0 (.known 0)/\H.get 9=an [] 0))
 (Y:rd 4 F=.ptr 6 0) (x:rd 5 F=.ptr 7 0) (Z:rd 7 F=v) (z:rd 8 F=aj 0) (G:H.get 6=an (bk c) 0) (bp:H.get 7=an [aj n,bN [u]] 0) (a5:10<=H.ag)
 (J:∀s o O g',(∀t,t<7->rd t s=rd t F)->rd 7 s=O->bn o 5 O (l++gz (c*u.1,u.2)) g'->(∀y w,y<10->H.get y=an w 0->o.get y=an w 0)->(∀y,y<5->H.get y=.none->o.get y=.none)->R (.exit 0) s o):
 bK (.loop (pc 62 2)) R F H:=by
 have B:=sF c u.1 hc hu hk;have hl:di (bN [u])=some (.val (aj 1)):=rfl;have P:decide ((0:Int)<1)=true:=rfl;have d11:decide ((1:Int)<1)=false:=rfl;have a2:aE .i64 ((0:Int)+1)=1:=rfl;have ar:dO none 5 [bN [u],aj 0]=some (.val (.dY (dS [u]) 0)):=ny aI;have t1:cW (dS [u]) 4=some [.bool (decide (u.1.num<0)),mag (aU u.1.num.natAbs),aR,mag (aU (dd u.1))]:=rfl;have N:dw (dS [u]) 4=some (bf u.2):=rfl;obtain⟨p,hp⟩:∃p,p=c*u.1:=⟨_,rfl⟩;rw[<-hp]at B J;refine ug 2 ?_;rw[k3];obtain⟨K,I⟩:∃K,K=rW e9 5 (pc 62 2) R 1:=⟨_,rfl⟩;rw[<-I];unfold bR bk at B;unfold bk at G;simp only[go_sem,Pf,ahT,Y,x,Z,z,G,bp,hl,P,ar,t1,N];refine use B ?_;have Q:bM (bf u.2)=true:=rfl;have S:cellsOf (bf u.2)=[bf u.2]:=rfl;have a3:V.one (bf u.2)=true:=rfl;simp only[go_sem,bp,N,Q,S,true_and];have a0:dI [V.bool (decide (p.num<0)),mag (aU p.num.natAbs),aR,mag (aU (dd p)),bf u.2]=true:=rfl;have E:∀(f:Fr) (i:V) (e:ah) (j:Nat),(∀t,t<7->rd t f=rd t F)->rd 8 f=aj 0->rd 5 f=.ptr 7 0->rd 7 f=i->bn e 5 i (l++gz (p,u.2)) j->(∀y,y<H.ag->(∀a b,H.get y≠ .bV a b)->e.get y=H.get y)->bK (pc 62 0) (gy K R) f e:=by
  intro f i e j ac W T U q A;have eB:e.get 7=an [aj n,bN [u]] 0:=by rw[A 7 aa (by intro a b h;rw[bp]at h;cases h),bp]
  simp only[go_sem,ahS,W,a2];rw[I,k3];simp only[go_sem,Pf,T,eB,hl,d11];refine J _ _ i j (λt C=>?_) ?_ q (λy w r h=>?_) (λy r h=>?_)
  .simp(disch:=omega)only[cX];exact ac t C
  .simp only[go_sem,U]
  .rw[A y aa (by intro a b k;rw[h]at k;cases k),h]
  .rw[A y aa (by intro a b k;rw[h]at k;cases k),h]
 have a4:∀(f:Fr) (e:ah),bK (pc 62 0) (gy K R) f e->hD 1 (gy (bK (pc 62 0) (gy K R)) (gy K R)) X.norm f e:=λ_ _ h=>h
 rcases hv with⟨g,q⟩|⟨rfl,rfl,e3⟩
 .refine kM (bytes:=88) q rfl ai a0 ⟨aa,ai⟩ λi e j D L M a7=>?_
  simp only[go_sem];refine E _ i e j (λt C=>?_) ?_ ?_ ?_ D (λy r h=>M y r (q.xO h))
  .simp(disch:=omega)only[cX]
  iterate 3 simp only[go_sem,z,x]
 .have aw:¬H.ag=9:=aa;refine P9 (bytes:=88) (sz:=5) (n:=1) (cs:=[V.bool (decide (p.num<0)),mag (aU p.num.natAbs),aR,mag (aU (dd p)),bf u.2]) (by rw[ah.bl,ao aw,e3]) rfl ?_ ai rfl ai ⟨ai,ai⟩ λi e D L M=>?_
  .show ah.dz (H.push (an [V.bool (decide (p.num<0)),mag (aU p.num.natAbs),aR,mag (aU (dd p)),bf u.2] 0)) H.ag 0 (1*5)=_;rw[fO (cs:=[V.bool (decide (p.num<0)),mag (aU p.num.natAbs),aR,mag (aU (dd p)),bf u.2]) (by rw[ah.bl,ay rfl])];rfl
  simp only[go_sem];refine E _ i e _ (λt C=>?_) ?_ ?_ ?_ D (λy r h=>by rw[L y ff,ah.bl,ao aa])
  .simp(disch:=omega)only[cX]
  iterate 3 simp only[go_sem,z,x]
def asi(n:Nat)(hn:n=1\/n=2)(a:aF)(Y:af a<=1)(N:j0 n a)(a1:∀t∈a,aM 200 t.1)(c:Rat)(A:aM 100 c)(u:b9)(D:aM 100 u.1)(O:j0 n [u]):bm 62 [d_ n a,bR c,d_ n [u]] (d_ n (f_ (a++[(c*u.1,u.2)]))):=by
 have ad:=z1 (a++[(c*u.1,u.2)]) n 200 n aa (λt ht=>by
  rcases ki.1 ht with ht|ht
  .exact N t ht
  .rw[fj.1 ht];exact O u aI) (λt ht=>by
  rcases ki.1 ht with ht|ht
  .exact a1 t ht
  .rw[fj.1 ht];exact A.mul D) (by rw[bw,iA];omega) (by rw[bw,iA];omega)
 refine gR (.f3 (kA _ _) (ij _) (kA _ _)) (C4 hT b_ fI RL.1 RL.2 (by kernel_rfl) 3 42 rfl rfl ?_);unfold d_ fZ bR;have k1:∀q,bM (.agg (bk q))=true:=λ_=>rfl
 simp only[go_sem,d62,ahW,ahV,aS.cutAt];obtain⟨b,d⟩:∃b,b=(((((ah.zero 5).push (an [aj n,bN a] 0)).push (an (bk c) 0)).push (an [aj n,bN [u]] 0)).push (an [aj 0,.aA] 0)).push (an [] 0):=⟨_,rfl⟩;have X:b.get 5=an [aj n,bN a] 0:=by rw[d];simp only[go_sem]
 have s:b.get 6=an (bk c) 0:=by rw[d];simp only[go_sem]
 have bp:b.get 7=an [aj n,bN [u]] 0:=by rw[d];simp only[go_sem]
 have hJ:b.get 8=an [aj 0,.aA] 0:=by rw[d];simp only[go_sem]
 have e3:b.get 9=an [] 0:=by rw[d];simp only[go_sem]
 have Z:∀y,y<5->b.get y=.none:=λy E=>by rw[d];rw[ah.bl,ao ff,ah.bl,ao ff,ah.bl,ao ff,ah.bl,ao ff,ah.bl,ao ff,ah.hL]
 have a6:b.ag=10:=by rw[d];simp only[go_sem]
 rw[<-d];clear d;obtain⟨Q,z⟩:∃Q:b5,Q=(gC [iC.cell 6 true 2] λv1 p=>∃v,bS p (ah.zero p.ag) v1 v/\bA v/\v=V.agg [aj n,bN (f_ (a++[(c*u.1,u.2)]))]):=⟨_,rfl⟩;rw[<-z]
 have J:∀(f:Fr) (k:ah) (v:V),rd 3 f=.ptr 5 0->rd 4 f=.ptr 6 0->rd 5 f=.ptr 7 0->rd 6 f=.ptr 8 0->rd 7 f=v->rd 8 f=aj 0->(∀y,y<10->k.get y=b.get y)->10<=k.ag->((∃g,bn k 5 v (dS a) g)\/(dS a=[]/\v=.slice 9 0 0 (.known 0)/\k.get 9=an [] 0))->
  bK (.loop (pc 62 2)) (hD 0 (gy (bK (aS.cut 5 42 (pc 62 3)) Q) Q)) f k:=by
  intro f k v P R S T U W j ac hv;refine ar_ n (dS a) c u A D ai (by rw[mM];omega) v _ _ _ hv R S U W (by rw[j 6 ai,s]) (by rw[j 7 ai,bp]) ac ?_;intro i m v3 g3 x M B o ab;have K:rd 3 i=.ptr 5 0:=by rw[x 3 ai];exact P
  have L:rd 6 i=.ptr 8 0:=by rw[x 6 ai];exact T
  have F:=o 5 _ ai (by rw[j 5 ai,X]);have ar:=o 6 _ ai (by rw[j 6 ai,s]);have eB:=o 7 _ ai (by rw[j 7 ai,bp]);have lH:=o 8 _ ai (by rw[j 8 ai,hJ]);have C:∀y r g,y<9->m.get y=an r g->g=0:=λy r g E e=>by
   by_cases w:y<5
   .rw[ab y w (by rw[j y aa,Z y w])]at e;cases e
   .rcases(aa:y=5\/y=6\/y=7\/y=8)with rfl|rfl|rfl|rfl
    .rw[F]at e;cases e;rfl
    .rw[ar]at e;cases e;rfl
    .rw[eB]at e;cases e;rfl
    .rw[lH]at e;cases e;rfl
  have ae:dS a++gz (c*u.1,u.2)=dS (a++[(c*u.1,u.2)]):=by rw[wW];simp[dS]
  rw[ae]at B;rw[gb];simp only[go_sem];refine Ft (m.low 9) (λt=>if t=7 then bN (a++[(c*u.1,u.2)])else if t=3\/t=6 then rd t i else .any) (C_ ai C) (λt ht=>?_) ?_
  .show bS _ _ _ (if t=7 then _ else _);by_cases h:t=7
   .subst h;rw[ay rfl,M];exact B.A3 ai C (mM _)
   .rw[ao h];split
    .exact .same _
    .exact .any _
  have G:rd 3 (mI (λt=>if t=7 then bN (a++[(c*u.1,u.2)])else if t=3\/t=6 then rd t i else .any) 42)=.ptr 5 0:=by rw[qu _ ai];exact K
  have H:rd 6 (mI (λt=>if t=7 then bN (a++[(c*u.1,u.2)])else if t=3\/t=6 then rd t i else .any) 42)=.ptr 8 0:=by rw[qu _ ai];exact L
  have I:rd 7 (mI (λt=>if t=7 then bN (a++[(c*u.1,u.2)])else if t=3\/t=6 then rd t i else .any) 42)=bN (a++[(c*u.1,u.2)]):=by rw[qu _ ai];rfl
  generalize mI (λt=>if t=7 then bN (a++[(c*u.1,u.2)])else if t=3\/t=6 then rd t i else .any) 42=a3 at G H I
  have am:(m.low 9).get 5=an [aj n,bN a] 0:=by rw[ah.kN,ay ai];exact F
  have ap:(m.low 9).get 8=an [aj 0,.aA] 0:=by rw[ah.kN,ay ai];exact lH
  simp only[go_sem,ahU,G,I,am];refine use ad ?_;simp only[go_sem,d_,fZ,z,H,ap];exact⟨_,.same _,kA n _,rfl⟩
 cases a with
 |nil=>
  have e:fU 5 88 [V.slice 9 0 0 (Cap.known 0),bN []] b=some (.slice 9 0 0 (.known 0),b):=rfl;rw[e];simp only[go_sem];refine J _ _ _ ?_ ?_ ?_ ?_ ?_ ?_ (λ_ _=>rfl) aa (.inr ⟨rfl,rfl,e3⟩)
  all_goals simp only[go_sem]
 |cons t l=>
  have hl:l=[]:=pn (by rw[dZ]at Y;omega);subst hl;refine xM (n:=1) (cs:=dS [t]) e3 ai rfl ai ⟨ai,ai⟩ λv2 H4 q1 a0 a8=>?_
  simp only[go_sem];refine J _ _ _ ?_ ?_ ?_ ?_ ?_ ?_ (λy E=>a0 y aa) aa (.inl ⟨_,q1⟩)
  all_goals simp only[go_sem]
def aqU(a b:Int):q6 min2 [aj a,aj b]=some (.val (aj (min a b))):=by
 show some (bh.val (V.int .i64 (match l7 b a with|true=>b|false=>a)))=_;rw[qj];by_cases h:b<a
 .rw[b3 h,(aa:min a b=b)]
 .rw[bP h,(aa:min a b=a)]
def aro(l:List Int)(H:ah):dm 7 [oz l] H λv a=>v=.ptr H.ag 0/\a=H.push (an (dN (l.take 400) 0) 0):=by
 refine bg eB ?_;have b:slice3 (kG 1) false true false [oz l,aj (min (af l:Int) 400)]=some (.val (oz (l.take 400))):=by
  have e:(min (af l:Int) 400).toNat=af (l.take 400):=by rw[e8];omega
  unfold oz;rw[EZ aI ⟨aa,aa⟩,e,eD,<-List.map_take,e8];rw[show List.take (min 400 (af l)) l=List.take 400 l from by rw[List.take_eq_take_iff];omega]
 have c:bM (oz (l.take 400))=true:=rfl;have d:cellsOf (oz (l.take 400))=[oz (l.take 400)]:=rfl;have bX:V.one (oz (l.take 400))=true:=rfl;simp(disch:=omega)only[go_sem,d7,aih,aqU,b,c,d]
 first|exact⟨trivial,rfl⟩|exact⟨rfl,trivial⟩|trivial
def apO(l:List Int)(hl:af l<=400)(a:kY l):p9 l 8 [] λv=>∃p:fM,p.aG/\v=oh p:=by
 refine tZ .nil λi hi=>bg lH ?_
 simp only[go_sem,d8,aiw];refine jj (oX l hl a 2 ai) ai hi ?_ ?_
 .simp only[go_sem,q7,fX]
 rintro _ o ⟨k,j,rfl⟩ c;have h:aE .i64 (1+(k:Int))=((k+1:Nat):Int):=by rw[aK _ aa];omega
 simp only[go_sem,h];refine jj (asw l hl a (k+1) aa) ai c ?_ ?_
 .simp only[go_sem]
 rintro _ f ⟨p,m,e,rfl⟩ d;have g:∀t,bM (bN t)=true/\cellsOf (bN t)=[bN t]/\V.one (bN t)=true:=λ_=>⟨rfl,rfl,rfl⟩
 have b:∀t,bM (mh p.n t)=true/\cellsOf (mh p.n t)=[mh p.n t]/\V.one (mh p.n t)=true:=λ_=>⟨rfl,rfl,rfl⟩
 unfold oh;simp only[go_sem,fX,(g p.obj).2.2,(b p.is).2.2,(b p.es).2.2];refine⟨f,_,d,?_,.same _,AZ p,p,e,rfl⟩;simp only[go_sem]
def FA:kW:=Gs 5 nN qU sB 400
def U8:qG e9 5 FA:=MD hT b_ SB fI 400
def D2(v:V):Bool:=match v with|.bool b=>b|_=>false
def RT:Bool:=match FA (.fn 10) [] dV with
 |some (v,H)=>and (D2 v) (and (xz (H.get 0) (dV.get 0)) (and (xz (H.get 1) (dV.get 1)) (xz (H.get 4) (dV.get 4))))
 |none=>false
def apK:RT=true:=ep
def apJ:cU 10 [] cY:=by
 refine dg .nil ?_;have h:=apK;unfold RT at h;cases b:FA (.fn 10) [] dV with
 |none=>rw[b]at h;cases h
 |some r=>
  obtain⟨v,H⟩:=r;rw[b]at h;have c:and (D2 v) (and (xz (H.get 0) (dV.get 0)) (and (xz (H.get 1) (dV.get 1)) (xz (H.get 4) (dV.get 4))))=true:=h;rw[de,de,de]at c;obtain⟨d,j,k,l⟩:=c;have n:v=cY:=by
   cases v<;>first|(cases d;done)|skip
   exact congrArg V.bool d
  have m:GT H:=λy p e=>by
   rw[<-e];rw[lF]at e;split at e
   .rename_i f;subst f;exact Ga l
   .split at e
    .rename_i a;subst a;exact Ga k
    .split at e
     .rename_i a;subst a;exact Ga j
     .cases e
  refine(U8 b).mono λq o ⟨g,i⟩=>?_
  rw[g,i];exact bO m n (.bool _)
def JB(p:fM):au:=[aj p.n,aj p.n,bN p.obj,mh p.n p.is,mh p.n p.es]
def Pv(h:a<2^9):af (dec a)<=3:=by
 by_cases b:a=0
 .rw[b];decide
 .have:dec a=ds a:=ao b;rw[this];exact qZ (k:=3) (rZ h ai)
def awK{s:dF}(h:nT 9 s):BZ (gB s):=by
 have b:∀q:Rat,aM 9 q->af (aO q)<=20:=λq a=>by
  have e:=Pv a.num;have f:=Pv a.den;unfold aO;rw[bw,bw];have c:af (if q.num<0 then [(45:UInt8)]else [])<=1:=by split<;>simp
  have d:af (if q.den=1 then []else(47:UInt8)::dec q.den)<=4:=by
   split
   .simp
   .rw[dZ];omega
  omega
 unfold gB BZ;constructor
 .show af (if s.hl then aO s.lo else [])<=20;split
  .exact b _ h.1
  .simp
 .show af (if s.hh then aO s.hi else [])<=20;split
  .exact b _ h.2
  .simp
open Go.RowKit (Below)
def wZ(k:IntKind)(l:av):Array Value:=(l.map λn=>Value.int k (.ofNat n)).toArray
def nj(w:World)(g:Nat)(k:IntKind)(l:av):Prop:=∃t,w.heap[g]? =some (.cells (wZ k l) t (0,0))
def tY(k:IntKind)(l:av):au:=l.map λd:Nat=>V.int k (d:Int)
def avh{k:IntKind}{l:av}{i:Nat}{v:V}(h:(tY k l)[i]? =some v):∃n,l[i]? =some n/\v=.int k (.ofNat n):=by
 unfold tY at h;rw[hY]at h;cases hl:l[i]? with
 |none=>rw[hl]at h;cases h
 |some n=>rw[hl]at h;cases h;exact⟨n,rfl,rfl⟩
def nj.cell{w:World}{g:Nat}{k:IntKind}{l:av}(h:nj w g k l){i n:Nat}(hi:l[i]? =some n):w.cell? ⟨g,i,none⟩=some (.int k (.ofNat n))/\w.frozen? ⟨g,i,none⟩=false:=by obtain⟨t,h⟩:=h;unfold World.cell? World.frozen?;simp only[h];refine⟨?_,aI⟩;simp[wZ,hi]
def nj.kind{w:World}{g:Nat}{k:IntKind}{l:av}(h:nj w g k l){o:Nat}{v:Value}(hc:w.cell? ⟨g,o,none⟩=some v):∃z,v=.int k z:=by obtain⟨t,h⟩:=h;unfold World.cell? at hc;simp only[h]at hc;simp[wZ]at hc;obtain⟨a,_,h2⟩:=hc;exact⟨_,h2.symm⟩
def zy(b:Nat):Nat:=if b=0 then 20 else if b=1 then 64 else if b=4 then 32 else 0
def A6(S:av)(w:World)(c:Nat):Option Obj:=if c∈S then w.heap[c]? else none
def wM(S:av)(w:World):aL:=⟨λb=>if b<5 then some ⟨b,0,zy b⟩else none,A6 S w⟩
def zJ{S:av}{w:World}{b:Nat}(h:b<5):wM S w b=some ⟨b,0,zy b⟩:=ay h
def wN{S:av}{w:World}{b:Nat}{l:Go.ax.Loc}(h:wM S w b=some l):b<5/\l=⟨b,0,zy b⟩:=by
 by_cases hb:b<5
 .rw[zJ hb]at h;cases h;exact⟨hb,rfl⟩
 .rw[show wM S w b=none from ao hb]at h;cases h
structure Start (w:World) (S:List Nat):Prop where
 t0:nj w 0 .u64 og
 t1:nj w 1 .u8 o7
 t4:nj w 4 .u8 sM
 size:5<=w.heap.size
 im:∀c∈S,(∃cs t fr,w.heap[c]? =some (.cells cs t fr))/\c≠0/\c≠1/\c≠4
def FF{b g:Nat}{cs:au}(h:dV.get b=.cells cs g):g=0/\((b=0/\cs=tY .u64 og)\/(b=1/\cs=tY .u8 o7)\/(b=4/\cs=tY .u8 sM)):=by
 rw[lF]at h;split at h
 .rename_i e;cases h;exact⟨rfl,.inr (.inr ⟨e,rfl⟩)⟩
 .split at h
  .rename_i e;cases h;exact⟨rfl,.inr (.inl ⟨e,rfl⟩)⟩
  .split at h
   .rename_i e;cases h;exact⟨rfl,.inl ⟨e,rfl⟩⟩
   .cases h
def KV{w:World}{S:av}(hS:Start w S){b g:Nat}{cs:au}(h:dV.get b=.cells cs g):g=0/\∃k L,nj w b k L/\cs=tY k L/\b<5/\L.length=zy b:=by
 obtain⟨h1,h2⟩:=FF h;rcases h2 with⟨rfl,rfl⟩|⟨rfl,rfl⟩|⟨rfl,rfl⟩
 .exact⟨h1,_,_,hS.t0,rfl,ai,rfl⟩
 .exact⟨h1,_,_,hS.t1,rfl,ai,rfl⟩
 .exact⟨h1,_,_,hS.t4,rfl,ai,rfl⟩
def Vb{b x y:Nat}(h:dV.get b=.bV x y):False:=by
 rw[lF]at h;split at h
 .cases h
 .split at h
  .cases h
  .split at h<;>cases h
def Vc{b:Nat}{o:p8}(h:dV.get b=.bW o):False:=by
 rw[lF]at h;split at h
 .cases h
 .split at h
  .cases h
  .split at h<;>cases h
def atf{w:World}{S:av}(hS:Start w S):Rel (wM S w) dV w:=by
 refine⟨?_,?_,?_,?_,?_,?_,?_,?_,?_,?_,?_⟩
 .intro b l cs g i v e1 e2 _ HV;obtain⟨_,k,L,h1,rfl,h3,_⟩:=KV hS e2;obtain⟨_,rfl⟩:=wN e1;obtain⟨n,hn,rfl⟩:=avh HV;refine⟨_,?_,.int k (.ofNat n)⟩;show w.cell? ⟨b,0+i,none⟩=_;rw[eW];exact(h1.cell hn).1
 .intro b l i e1 hi;obtain⟨_,rfl⟩:=wN e1;have Cb:∀ {g:Nat}{k:IntKind}{L:av},nj w g k L->i<L.length->(∃v',w.cell? ⟨g,0+i,none⟩=some v')/\w.frozen? ⟨g,0+i,none⟩=false:=by intro g k L h hi;have:=h.cell (c4 hi);rw[eW];exact⟨⟨_,this.1⟩,this.2⟩
  have hi':i<zy b:=hi;unfold zy at hi';split at hi'
  .rename_i e;subst e;exact Cb hS.t0 hi'
  .split at hi'
   .rename_i e;subst e;exact Cb hS.t1 hi'
   .split at hi'
    .rename_i e;subst e;exact Cb hS.t4 hi'
    .omega
 .intro b l cs g e1 e2;obtain⟨_,k,L,_,rfl,_,h4⟩:=KV hS e2;obtain⟨_,rfl⟩:=wN e1;unfold tY;rw[gD,h4];exact aJ _
 .intro b b' l l' e1 e2 Dy HV;obtain⟨_,rfl⟩:=wN e1;obtain⟨_,rfl⟩:=wN e2;exact absurd Dy HV
 .intro b hb;have hb':5<=b:=hb;exact⟨ao aa,Cc.top b hb'⟩
 .intro b l e1;obtain⟨h,rfl⟩:=wN e1;exact fy h hS.size
 .intro b cs g leaf br e1 e2;exact absurd (FF e1).1 e2
 .intro g leaf br e1;exact(Vb e1).elim
 .intro b l o _ e2;exact(Vc e2).elim
 .intro c x e;have e':A6 S w c=some x:=e;unfold A6 at e';split at e'
  .rename_i hc;obtain⟨⟨cs,t,fr,h1⟩,h2,h3,h4⟩:=hS.im c hc;rw[h1]at e';refine⟨by rw[h1];exact e',⟨cs,t,fr,(Option.some.inj e').symm⟩,λb l e1 e2=>?_⟩;obtain⟨_,rfl⟩:=wN e1;have e2:b=c:=e2;rw[lF,ao aa,ao aa,ao aa]
  .cases e'
 .intro b cs g e;rw[(FF e).1];exact Nat.zero_lt_succ _
def ak1(S:av)(w:World):mq 5 (wM S w):=λ_ hg=>⟨_,zJ hg⟩
def Kn{w w':World}{D:aL}{H':ah}{g n:Nat}{k:IntKind}{L:av}(hr:Rel D H' w')(hs:iQ w w')(alw:D g=some ⟨g,0,n⟩)(alx:H'.get g=.cells (tY k L) 0)(h:nj w g k L):w'.heap[g]? =w.heap[g]? :=by
 obtain⟨t,h0⟩:=h;obtain⟨cs',h1,h2⟩:=hs.shape g _ t (0,0) h0;rw[h1,h0];have:cs'=wZ k L:=by
  refine Array.ext h2 ?_;intro i hi1 hi2;have A5:i<L.length:=by simpa [wZ]using hi2
  have hn:(tY k L)[i]? =some (.int k (.ofNat L[i])):=by unfold tY;simp[A5]
  obtain⟨v',e1,e2⟩:=hr.cell alw alx rfl hn;cases e2;rw[eW]at e1;unfold World.cell? at e1;simp only[h1]at e1;simp[hi1]at e1;rw[e1];simp[wZ]
 rw[this]
def TE{C:aL}:∀l:List Int,bu C (l.map λz=>V.int .i64 z) (l.map λz=>Value.int .i64 z)
 |[]=>.nil
 |z::l=>.cons (.int _ _) (TE l)
def VA(c o i:Nat):(Addr.add ⟨c,o,none⟩ i)=⟨c,o+i,none⟩:=by
 unfold Addr.add;split
 .rename_i e;rw[e];rfl
 .rfl
def ar'{W:World}{c o:Nat}{sp:cq}{v:Value}(h:W.cell? ⟨c,o,sp⟩=some v):sp=none:=by
 unfold World.cell? at h;cases sp with
 |none=>rfl
 |some s=>split at h<;>simp at h
def Xi{W:World}{c o:Nat}{v:Value}(h:W.cell? ⟨c,o,none⟩=some v):∃cs t fr,W.heap[c]? =some (.cells cs t fr):=by
 unfold World.cell? at h;split at h
 .rename_i e;exact⟨_,_,_,e⟩
 .cases h
def V2{W:World}{c o:Nat}{v:Value}{x:Obj}(hx:W.heap[c]? =some x)(h:W.cell? ⟨c,o,none⟩=some v):Obj.at x o v:=by intro w j hj;unfold World.cell? at h⊢;simp only[hx]at h;simp only[hj];exact h
def K2(W:World)(sl:Value):Prop:=sl=.slice none 0 0\/∃(a:Addr) (len cap:Nat) (zs:List Int),sl=.slice (some a) len cap/\len=af zs/\len<=cap/\(∀i,i<af zs->W.cell? (a.add i)=some (.int .i64 (zs.getD i 0)))/\kY zs
open Go.ChangeShapes
def apP:(Rows.laid_internal_strconv_uint64pow10:DataW Unit)=Lib.tabData .u64 (og.map Int.ofNat):=by kernel_rfl
def apQ:(Rows.laid_math_bits_deBruijn64tab:DataW Unit)=Lib.tabData .u8 (o7.map Int.ofNat):=by kernel_rfl
def apR:(Rows.laid_math_bits_deBruijn32tab:DataW Unit)=Lib.tabData .u8 (sM.map Int.ofNat):=by kernel_rfl
def aq8:b6 5 e9.globals.size=true:=by kernel_rfl
def atI:(kZ 5).all (λg=>(((begin e9 (λ_ _=>0) default).world.heap[g]?).bind Obj.row?).isSome)=true:=by kernel_rfl
def Q_{W:World}(h:W.ShapedOpen e9)(g:Nat)(hg:g<5):∃cs t,W.heap[g]? =some (.cells cs t (0,0)):=by have h1:=qJ.1 atI g (List.mem_range.2 hg);obtain⟨⟨zero,t⟩,hz⟩:=Option.isSome_iff_exists.1 h1;have hn:=jI aq8;obtain⟨cs,h2,_⟩:=h.1 g zero t aa hz;exact⟨cs,t,h2⟩
def Km{W:World}(hsh:W.ShapedOpen e9){name:String}{g:Nat}{k:IntKind}{L:av}{cs:Array Value}(hg:e9.globalNamed name=some g)(alP:g<5)(hv:W.var? e9 name=some cs)(hc:cs.toList=(L.map Int.ofNat).map λz=>Value.int k z):nj W g k L:=by
 obtain⟨cs',t,hh⟩:=Q_ hsh g alP;unfold World.var? at hv;rw[hg]at hv;simp only[Option.bind_some,hh,Option.some.injEq]at hv;subst hv;refine⟨t,?_⟩;rw[hh];have:cs'=wZ k L:=by apply um;rw[hc];simp[wZ]
 rw[this]
def Ra:e9.globalNamed "internal/strconv.uint64pow10"=some 0:=by kernel_rfl
def DU:e9.globalNamed "math/bits.deBruijn64tab"=some 1:=by kernel_rfl
def Rb:e9.globalNamed "math/bits.deBruijn32tab"=some 4:=by kernel_rfl
structure FQ (g:Nat) (n:Nat) (k:IntKind) (t e:TypeId):Prop where
 ty:(e9.globals[g]?).map (·.type)=some t
 ht:e9.underlying t=some (.array n e)
 he:e9.underlying e=some (.int k)
 hce:e9.cellsOf e=1
 hct:e9.cellsOf t=n
def ami{H:Type}{enc:TypeId×Value->H}{P:Program}{t e:TypeId}{W W':World}{a:Option Addr}{len cap:Nat}{d:DataW H}{ps:List MemPlace}(ht:P.underlying t=some (.slice e))(he:P.underlying e=some (.int .i64))(hc:P.cellsOf e=1)
 (hb:Below W.heap.size W W') (h:DataW.Trod enc P W 0 (λ_=>true) true t (.slice a len cap) d ps):DataW.Trod enc P W' 0 (λb=>decide (b<W.heap.size)) true t (.slice a len cap) d ps:=by
 obtain⟨fuel,hf⟩:=h;rcases open_ints ht he hc hf with⟨hcs,hx⟩|⟨x,l,c,zs,hcs,_,hl,hm,hz,hx,hcell,IB⟩
 .simp[Value.cells]at hcs;obtain⟨rfl,rfl,rfl⟩:=hcs;simp only[Prod.mk.injEq]at hx;obtain⟨rfl,rfl⟩:=hx;exact Go.RowKit.shut_slice_nil ht
 .simp[Value.cells]at hcs;obtain⟨rfl,rfl,rfl⟩:=hcs;simp only[Prod.mk.injEq]at hx;obtain⟨rfl,rfl⟩:=hx;simp only[if_true]at hz;have hlt:0<af zs->x.block<W.heap.size:=by
   intro h0;have h1:=hcell 0 h0;have h2:(x.add 0).block=x.block:=block_add x 0;unfold World.cell? at h1;rw[h2]at h1;rcases rY x.block W.heap.size with h3|h3
   .exact h3
   .rw[Array.getElem?_eq_none h3]at h1;cases h1
  refine⟨2,shut_ints 0 ht he hc (cj _) hl hm ?_ ?_ IB⟩
  .by_cases h0:0<af zs
   .simp[hlt h0,hz]
   .have:cap=0:=aa;have:len=0:=aa;simp_all
  .intro i hi;rw[hb.cell (by rw[block_add];exact hlt aa)];exact hcell i hi
def wf_i64{z:Int}(h:(Lit.int .i64 z).wf=true): -9223372036854775808<=z/\z<9223372036854775808:=by have h':(decide (IntKind.min .i64<=z)&&decide (z<=IntKind.max .i64))=true:=h;rw[de,decide_eq_true_eq,decide_eq_true_eq]at h';have e1:IntKind.min .i64= -9223372036854775808:=ai;have e2:IntKind.max .i64=9223372036854775807:=ai;rw[e1,e2]at h';omega
section
variable {H:Type}{enc:TypeId×Value->H}{P:Program}{W W':World}
end
section
attribute [local irreducible] rd kc ex bD bB re rg mv bJ pick alloc box bi bs ba be fd bG st fa bz bY cv cn cw cT cS ms cr cK cJ cB mx mn cA ap cF bQ cC cD bU cE ext cO neg Go.ax.not cL cI cN cM cR cP cG cQ cy cx u8
section
attribute [go_sem] Int.reduceToNat and_true gv fS mz true_and decide_true decide_false Int.reduceEq Int.reduceLT Int.reduceNe Nat.reduceLT
attribute [go_sem↓] reduceIte
variable{G:V->ah->Prop}{J:aS}
def eM(f:Func){args:au}{a:aS}{r:List iC}(_:(AB none none f.body).1=a:=by conv=>lhs;reduce)(_:a=J:=by(try simp only[Int.reduceOfNat,Int.reduceNegSucc,Kx]);rfl)
 (_:rE f=r:=by conv=>lhs;reduce) (c:nN.get aN d=some f:=by kernel_rfl) (g:tw 5 nN qU f=some (J,r):=by kernel_rfl) (e:b6 (c_ args) f.ntmps=true:=by rfl)
 (h:bK J (gC r G) (mV args 0 .nil) b):dm d args b G:=pD hT b_ fI c g e h
def lX(f:Func){args:au}(h:bK (pS a) (gC (rE f) G) (mV args 0 .nil) b)(c:nN.get aN a=some f:=by kernel_rfl)(d:tw 5 nN qU f=some (pS a,rE f):=by kernel_rfl)
 (e:b6 (c_ args) f.ntmps=true:=by rfl):dm a args b G:=pD hT b_ fI c d e h
def eC(B:Nat)(H a:ah):Prop:=(∀y,y<B->a.get y=H.get y)/\B<=a.ag
theorem eC.refl{B:Nat}(h:B<=b.ag):eC B b b:=⟨λ_ _=>rfl,h⟩
def eC.push{B:Nat}(h:eC B b I)(o:dU):eC B b (I.push o):=⟨λy a=>by rw[ah.bl,ao (by have:=h.2;omega)];exact h.1 y a,Nat.le_succ_of_le h.2⟩
def eC.set{B:Nat}(h:eC B b I)(d:B<=a)(o:dU):eC B b (I.set a o):=⟨λy c=>by rw[ah.aT,ao aa];exact h.1 y c,h.2⟩
def eC.trans{B:Nat}{a:ah}(h:eC B b I)(c:eC B I a):eC B b a:=⟨λy d=>(c.1 y d).trans (h.1 y d),c.2⟩
def gG(L:av)(F fP:Fr):Prop:=match L with
 |[]=>True
 |t::l=>rd t F=rd t fP/\gG l F fP
@[go_sem]theorem aAU(F fP:Fr):gG [] F fP=True:=rfl
@[go_sem]theorem ye(t:Nat)(l:av)(F fP:Fr):gG (t::l) F fP=(rd t F=rd t fP/\gG l F fP):=rfl
def rG{fP:Fr}:∀ {L:av},gG L j fP↔∀t∈L,rd t j=rd t fP
 |[]=>⟨λ_ _ h=>(rV h).elim,λ_=>trivial⟩
 |t::l=>by rw[ye,rG,List.forall_mem_cons]
def yL(L:av)(B i m:Nat)(fP:Fr)(H0:ah)(E:cm)(R:b5):b5
 |.norm,F,H=>gG L F fP/\eC B H0 H/\rd i F=.int .i64 (m:Int)/\E F H
 |x,F,H=>R x F H
section
variable {L:av}{B i m:Nat}{fP F:Fr}{H0 H:ah}{E:cm}{R:b5}
@[go_sem↓]theorem ax1:yL L B i m fP H0 E R .norm F H=(gG L F fP/\eC B H0 H/\rd i F=aj m/\E F H):=rfl
@[go_sem↓]theorem ax2:yL L B i m fP H0 E R .ret F H=R .ret F H:=rfl
@[go_sem↓]theorem ax0(k:Nat):yL L B i m fP H0 E R (.exit k) F H=R (.exit k) F H:=rfl
end
theorem zO{v:V}(h:d≠a):rd a (put j (some d) v)=rd a j:=by rw[JL,ao h]
theorem CW{R b:b5}(h:∀x F H,R x F H->b x F H):∀x F H,hD a R x F H->hD a b x F H:=by
 intro x F H c;cases x with
 |norm=>exact h _ _ _ c
 |ret=>exact h _ _ _ c
 |exit i=>grind [gb,Gf]
variable{O:Nat}
theorem each{k o:Nat}{R:b5}(g:Nat)(L:av)(B:Nat)(E:Nat->cm)
 (hi:rd a j=aj 0) (T:rd d j=aj g) (hl:g<1000000000) (N:d∈L/\a∉L/\D∉L/\O∉L/\a≠d/\D≠d/\a≠D/\a≠O) (M:B<=b.ag)
 (l:∀m j b t v,t=D\/t=O\/t=a->E m j b->E m (put j (some t) v) b) (I:E 0 j b)
 (step:∀m c f,m<g->gG L c j->eC B b f->rd a c=aj m->E m c f->bK J (hD o (yL L B a m j b (E (m+1)) (hD k R))) c f)
 (K:∀c f,gG L c j->eC B b f->E g c f->R .norm c f):
 bK (.loop (.seq (.c7 [ex D (bi .lss (rd a) (rd d))]) (.seq (.cond (rd D) .skip (.exit k)) (.seq (.block o J) (.c7 [ex O (bi .add (rd a) (kc (aj 1))),ex a (mv (rd O))]))))) (hD k R) j b:=by
 obtain⟨P,Q,z,S,Z,d2,d3,G⟩:=N;have n:∀(c:Fr) (u:Nat) (v:V),u∉L->(∀t∈L,rd t c=rd t j)->∀t∈L,rd t (put c (some u) v)=rd t j:=λc u v hu h t ht=>by grind [zO]
 refine b8 (λr c f=>∃m,r=g-m/\m<=g/\(∀t∈L,rd t c=rd t j)/\eC B b f/\rd a c=aj m/\E m c f) g ⟨0,rfl,cj _,λ_ _=>rfl,.refl M,hi,I⟩ ?_;rintro r c f ⟨m,rfl,hm,s,hh,w,A⟩;have C:rd d c=aj g:=by rw[s d P];exact T
 by_cases h:m<g
 .have U:=step m (put c (some D) cY) f h (rG.2 (n _ _ _ z s)) hh (by rw[zO (Ne.symm d3)];exact w) (l _ _ _ _ _ (.inl rfl) A);simp only[go_sem,w,C,show((m:Int)<(g:Int))=True from eq_true aa,zO d3];refine Go.ax.wp_mono J (λx p q=>CW (λx p q y=>?_) x p q) U;cases x with
  |norm=>
   obtain⟨X,o,bX,Y⟩:=y;have W:aE .i64 ((m:Int)+1)=((m+1:Nat):Int):=by rw[aK _ aa];omega
   show bK (.c7 _) _ p q;simp only[go_sem,bX,W,zO G];exact⟨g-(m+1),aa,m+1,rfl,h,n _ _ _ Q (n _ _ _ S (rG.1 X)),o,by simp only[go_sem],l _ _ _ _ _ (.inr (.inr rfl)) (l _ _ _ _ _ (.inr (.inl rfl)) Y)⟩
  |ret=>exact y
  |exit e=>exact y
 .have e:m=g:=aa;subst e;simp only[go_sem,w,C,show((m:Int)<(m:Int))=False from eq_false aa];exact K _ _ (rG.2 (n _ _ _ z s)) hh (l _ _ _ _ _ (.inl rfl) A)
end
end
section
set_option maxRecDepth 100000
attribute [local irreducible] rd kc ex bD bB re rg mv bJ pick alloc box bi bs ba be fd bG st fa bz bY cv cn cw cT cS ms cr cK cJ cB mx mn cA ap cF bQ cC cD bU cE ext cO neg Go.ax.not cL cI cN cM cR cP cG cQ cy cx u8
def bH(h:GT b:=by repeat (first|assumption|exact e5|refine GT.set ?_ (by first|exact nleb rfl|omega|(simp only[go_sem];omega)) _|refine GT.push ?_ (by first|exact nleb rfl|omega|(simp only[go_sem];omega)) _)):GT b:=h
def sL(n:Nat)(p:aF):au:=ee n p++ee n []
def E8(n:Nat)(p:aF):V:=.agg (sL n p)
def Qr(n:Nat)(p:aF):ct (ee n p):=.f2 .ii (tE _)
def A1(n:Nat)(p:aF):ct (sL n p):=l5 (Qr n p) (Qr n [])
def Rh(n:Nat)(p:aF):cU 204 [E8 n p,aj n] cY:=by refine dg (.f2 (.agg (A1 n p)) .ii) (eM Tryz.f204 (h:=?_));simp only[go_sem,E8,sL,ee,gv,fS,decide_true];exact bO bH rfl (.bool _)
def asd(n:Nat):mC n []:=⟨λ_ h=>(rV h).elim,.nil,cj _⟩
def UE(n:Nat)(a:n<=6)(p:aF)(b:mC n p):cU 266 [E8 n p,aj 1] cY:=by refine dg (.f2 (.agg (A1 n p)) .ii) (eM Tryz.f266 (h:=?_));simp only[go_sem,E8,sL,ee,gv,fS];refine bq (zN n a p b) bH ?_;simp only[go_sem];refine bq (zN n a [] (asd n)) bH ?_;simp only[go_sem,fq,p5,decide_true,decide_false];exact bO bH rfl (.bool _)
def sY:au:=[aR,.aA,aR,.aA]
def ym(q:Rat):V:=.agg (cc q++(sY++[aj 1]))
def Qt:ct sY:=.f4 .bb .aA .bb .aA
def Ij(q:Rat):bA (ym q):=.agg (l5 (Ih q) (l5 Qt (.f1 .ii)))
def atS(q:Rat):cU 390 [cZ q] (ym q):=by refine dg (.f1 (ig q)) (eM Tryz.f390 (h:=?_));simp only[go_sem,cZ,cc];exact bO bH rfl (Ij q)
def awO:cU 234 [.agg [aR,.aA]] (aj 0):=by refine dg (.f1 (.agg (.f2 .bb .aA))) (eM Tryz.f234 (h:=?_));simp only[go_sem,decide_true];exact bO bH rfl (.int _ _)
def asP:cU 171 [.agg sY] (aj 0):=by refine dg (.f1 (.agg Qt)) (eM Tryz.f171 (h:=?_));simp only[go_sem,sY];refine bq awO bH ?_;simp only[go_sem];exact bO bH rfl (.int _ _)
def Fb(s:aW):V:=.agg [.str s,.str [48],aj 1]
def as7(q:Rat)(a:aM 100 q):cU 368 [Fb (aO q)] (.aH [ym q,cY]):=by refine dg (.f1 (.agg (.f3 .ss .ss .ii))) (eM Tryz.f368 (h:=?_));simp only[go_sem,Fb];refine bq (JN q a) bH ?_;simp only[go_sem,cZ,cc];refine bq (JN 0 ⟨ai,ai⟩) bH ?_;simp only[go_sem,cZ,cc];refine bq (atS q) bH ?_;simp only[go_sem,ym,cc,sY];refine bq (λH _=>D3 0 H) bH ?_;simp only[go_sem];exact bO bH rfl (.aH (.f2 (Ij q) .bb))
def aug(q:Rat):cU 392 [ym q] (aj q.num.sign):=by refine dg (.f1 (Ij q)) (eM Tryz.f392 (h:=?_));simp only[go_sem,ym,cc,sY];refine bq (λH _=>JH q H) bH ?_;simp only[go_sem];refine bq asP bH ?_;simp only[go_sem];exact bO bH rfl (.int _ _)
def avf(q:Rat)(a:aM 100 q):cU 369 [Fb (aO q)] (.aH [aj q.num.sign,aj 0]):=by refine dg (.f1 (.agg (.f3 .ss .ss .ii))) (eM Tryz.f369 (h:=?_));simp only[go_sem,Fb];refine bq (as7 q a) bH ?_;simp only[go_sem,ym,cc,sY];refine bq (aug q) bH ?_;simp only[go_sem];exact bO bH rfl (.aH (.f2 .ii .ii))
def eC.gt{B:Nat}(h:eC B b I)(g:GT b)(a:5<=B:=by(decide)):GT I:=g.keep λy c=>h.1 y aa
def kb{B:Nat}(h:eC B b I:=by repeat (first|assumption|refine eC.push ?_ _|refine eC.set ?_ (by first|exact nleb rfl|omega|(simp only[go_sem];omega)) _)):eC B b I:=h
def ek(h:a<d):(a=d)=False/\(d=a)=False:=⟨eq_false aa,eq_false aa⟩
structure xu where
 w:Nat
 r:List b9
def zZ(n:Nat)(s:xu):au:=.str (aO (s.w:Rat)):: .str [48]::aj 1::sL n s.r
theorem T1(n:Nat)(s:xu):af (zZ n s)=7:=rfl
def Qo(n:Nat)(s:xu):ct (zZ n s):=.cons (.str _) (.cons (.str _) (.cons (.int _ _) (A1 n s.r)))
structure xu.aG (n:Nat) (s:xu):Prop where
 w:s.w<=4
 r:mC n s.r
def gw{l:List f}(h:d<af l):∃a,a∈l/\l[d]? =some a:=⟨l[d],s5 h,c4 h⟩
def asJ(h:a<=4):aM 100 (a:Rat):=asI (z:=a) aa ai
theorem arA(n:Nat)(l:List xu)(hl:af l<=1000)(k:∀s∈l,s.aG n):cU 321 [bE (zZ n) l] cY:=by
 refine dg (.f1 (hH (Qo n) l)) (eM Tryz.f321 (h:=?_));simp only[go_sem];refine each (af l) [0,7,8] 5 (λ_ _ _=>True) ?_ ?_ aa ai (aJ 5) (λ_ _ _ _ _ _ h=>h) trivial ?_ ?_
 iterate 2 simp only[go_sem]
 .intro m c d i b hh hi _;obtain⟨a,f,e⟩:=gw i;have j:=jO (T1 n) e;have g:=hh.gt e5;have p:=hh.2;simp only[go_sem]at b;simp(disch:=omega)only[go_sem,b,hi,iq,j,zZ,sL,ee];refine bq (avf _ (asJ (k a f).w)) bH ?_;have o:((a.w:Rat).num.sign<0)=False:=eq_false (by grind [Rat.num_natCast]);simp only[go_sem,b,hi,o];exact kb
 .intro c d b hh _;simp only[go_sem];exact bO (hh.gt e5) rfl (.bool _)
structure xo where
 is:List Nat
 tX:List xu
def sE(n:Nat)(p:xo):au:=[bf p.is,bE (zZ n) p.tX]
theorem asz(n:Nat)(p:xo):af (sE n p)=2:=rfl
def Ig(n:Nat)(p:xo):ct (sE n p):=.f2 (n6 p.is) (hH (Qo n) p.tX)
structure xo.aG (n k:Nat) (p:xo):Prop where
 is:p.is.Pairwise (·< ·)
 ik:∀x∈p.is,x<k
 li:p.is.length<=1000
 tX:∀s∈p.tX,s.aG n
 ls:p.tX.length<=2
theorem av_(n:Nat)(I:n=1\/n=2)(k:Nat)(o:aF)(f q:List aF)(c:af f=k)(t:xo)(d:t.aG n k)(e:k<=1000):cU 265 [nq n o f q,aj 1,.agg (sE n t)] cY:=by
 have H:n<=6:=aa;refine dg (.f3 (xP _ I _ _ _) .ii (.agg (Ig _ t))) (eM Tryz.f265 (h:=?_));simp only[go_sem,nq,jb,sE];have O:=d.li
 have j:∀b:ah,eC 7 ((dV.push (an [fl n,aj n,fq o,dc n f,dc n q] 0)).push (an (sE n t) 0)) b->GT b/\b.get 5=an [fl n,aj n,fq o,dc n f,dc n q] 0/\b.get 6=an (sE n t) 0:=λb hh=>⟨hh.gt bH,by rw[hh.1 5 ai];simp only[go_sem],by rw[hh.1 6 ai];simp only[go_sem]⟩
 refine each t.is.length [1,3,5,13,14] 7 (λm F _=>rd 7 F=aj (if m=0 then-1 else(t.is.getD (m-1) 0:Int))) ?_ ?_ aa ai ff ?_ ?_ ?_ ?_
 iterate 2 simp only[go_sem,bf]
 .grind [zO]
 .simp only[go_sem]
 .intro m z b p c hh hi w;simp only[go_sem]at c;obtain⟨g,u,s⟩:=j b hh;obtain⟨x,y⟩:∃x,t.is.getD m 0=x:=⟨_,rfl⟩;have L:t.is[m]? =some x:=by rw[<-y,bT,c4 p];rfl
  have B:((if m=0 then-1 else(t.is.getD (m-1) 0:Int))<(x:Int))=True:=eq_true (by
   by_cases v:m=0
   .rw[ay v];omega
   .rw[ao v];have P:=List.pairwise_iff_getElem.1 d.is (m-1) m aa p aa
    grind)
  have C:((x:Int)<(af f:Int))=True:=eq_true (by have:=d.ik x (fL L);omega);simp(disch:=omega)only[go_sem,c,hi,w,u,j8,jc,y,B,C,Nat.succ_ne_zero,vN];exact kb
 .intro z b c hh w;simp only[go_sem]at c;obtain⟨g,u,s⟩:=j b hh;have bU:((256:Int)<(t.tX.length:Int))=False:=eq_false (by have:=d.ls;omega);simp only[go_sem,c,s,sE,bU];refine bq (arA n t.tX (by have:=d.ls;omega) d.tX) g ?_;simp only[go_sem,s,c,sE];refine each t.tX.length [1,3,5,42,43] 7 (λ_ _ _=>True) ?_ ?_ (by have:=d.ls;omega) ai hh.2 (λ_ _ _ _ _ _ h=>h) trivial ?_ ?_
  iterate 2 simp only[go_sem]
  .intro m A i p e l hi _;simp only[go_sem,c]at e;obtain⟨M,D,_⟩:=j i (hh.trans l);obtain⟨a,G,E⟩:=gw p;have K:=jO (T1 n) E;have N:=l.2;simp(disch:=omega)only[go_sem,e,hi,iq,K,zZ,sL,ee];refine bq (UE n H a.r (d.tX a G).r) bH ?_;have J:di (fl n)=some (.val (aj n)):=rfl;simp only[go_sem,e,D,ek (aa:5<i.ag),J];refine bq (Rh n a.r) bH ?_;simp only[go_sem,c,e,hi];exact kb
  .intro A i e l _;simp only[go_sem];exact bO (j i (hh.trans l)).1 rfl (.bool _)
structure FR (n:Nat) (o:List b9) (is es:List (List b9)):Prop where
 hn:n=1\/n=2
 ho:mC n o
 alR:∀q∈is,mC n q
 alK:∀q∈es,mC n q
 li:af is<=16
 le:af es<=16
def Jh(n:Nat)(i:n=1\/n=2)(o:aF)(f b:List aF)(q:aF)(e:mC n q)(H:ah)(g:6<=H.ag)(c:H.get 5=an (jb n o f b) 0)(h:GT H):
 dm 114 [gV n q,.ptr 5 0] H λv a=>v=cY/\a=H.push (an (ee n q) 0):=by
 refine eM Tryz.f114 (h:=?_);simp only[go_sem,gV,ee];refine bq (zN n aa q e) bH ?_;have d:di (fl n)=some (.val (aj n)):=rfl;simp only[go_sem,ek (aa:5<H.ag),c,jb,d]
def awb{f c:List aF}(h:FR d k f c):cU 60 [nq d k f c] cY:=by
 have n:=h.hn;have K:=h.li;have J:=h.le;refine dg (.f1 (xP _ n _ _ _)) (eM Tryz.f60 (h:=?_));have p:∀b:ah,eC 6 (dV.push (an (jb d k f c) 0)) b->GT b/\b.get 5=an (jb d k f c) 0:=λb hh=>⟨hh.gt bH,by rw[hh.1 5 ai];simp only[go_sem]⟩
 have I:zE 114 0 [.ptr 5 0]=some (.val (.func 114 [] [.ptr 5 0])):=rfl;have y:∀x:V,oL [.func 114 [] [.ptr 5 0],x]=some (.fn 114,[x,.ptr 5 0]):=λ_=>rfl
 have F:((16:Int)<(af f:Int))=False:=eq_false aa;have G:((16:Int)<(af c:Int))=False:=eq_false aa;simp only[go_sem,nq,jb];refine use (UI d n) ?_;simp only[go_sem,F,G,I];refine each (af f) [1,3,26,27] 6 (λ_ _ _=>True) ?_ ?_ aa ai (aJ 6) (λ_ _ _ _ _ _ h=>h) trivial ?_ ?_
 iterate 2 simp only[go_sem]
 .intro m C b z e hh hi _;simp only[go_sem]at e;obtain⟨g,r⟩:=p b hh;obtain⟨a,w,u⟩:=gw z;have A:=w5 (n:=d) u;have s:=hh.2;simp(disch:=omega)only[go_sem,e,hi,wm,A,ee,y];refine(Jh d n k f c a (h.alR a w) _ ff (by simp only[go_sem,ek (aa:5<b.ag),r]) bH).mono λv j ⟨o,H⟩=>?_
  subst o H;simp only[go_sem,e,hi];exact kb
 .intro C b e hh _;simp only[go_sem]at e;obtain⟨g,r⟩:=p b hh;simp only[go_sem,e,r,jb];refine each (af c) [1,3,38,39] 6 (λ_ _ _=>True) ?_ ?_ aa ai hh.2 (λ_ _ _ _ _ _ h=>h) trivial ?_ ?_
  iterate 2 simp only[go_sem]
  .intro m D j z i l hi _;simp only[go_sem,e]at i;obtain⟨B,q⟩:=p j (hh.trans l);obtain⟨a,w,u⟩:=gw z;have A:=w5 (n:=d) u;have s:=l.2;simp(disch:=omega)only[go_sem,i,hi,wm,A,ee,y];refine(Jh d n k f c a (h.alK a w) _ ff (by simp only[go_sem,ek (aa:5<j.ag),q]) bH).mono λv E ⟨o,t⟩=>?_
   subst o t;simp only[go_sem,e,i,hi];exact kb
  .intro D j i l _;simp only[go_sem,e]at i;obtain⟨B,q⟩:=p j (hh.trans l);have s:=l.2;simp only[go_sem,i,q,jb,y];refine(Jh d n k f c k h.ho _ s q B).mono λv E ⟨o,t⟩=>?_
   subst o t;simp only[go_sem];exact bO bH rfl (.bool _)
def asV:cU 264 [aj 1] cY:=by refine dg (.f1 .ii) (eM Tryz.f264 (h:=?_));simp only[go_sem];exact bO bH rfl (.bool _)
@[go_sem]theorem RS(a:f->au)(l:List f):bM (bE a l)=true/\cellsOf (bE a l)=[bE a l]/\V.one (bE a l)=true:=⟨rfl,rfl,rfl⟩
structure yy where
 ps:List xo
 ms:List (List b9)
def vX(n:Nat)(c:yy):au:=[aj 1,bE (sE n) c.ps,bE (sL n) c.ms]
def aj0(n:Nat)(c:yy):ct (vX n c):=.f3 .ii (hH (Ig n) c.ps) (hH (A1 n) c.ms)
theorem au7(n:Nat)(p:aF):af (sL n p)=4:=rfl
structure yy.aG (n k e:Nat) (c:yy):Prop where
 ps:∀p∈c.ps,p.aG n k
 aqs:c.ps.length<=2
 ms:∀p∈c.ms,mC n p
 lm:c.ms.length=e
def av8{i f:List aF}(h:FR d k i f)(c:yy)(o:c.aG d (af i) (af f)):cU 199 [nq d k i f,.agg (vX d c)] cY:=by
 have w:=h.hn;have H:=h.li;have G:=h.le;have J:=o.aqs;have I:=o.lm;refine dg (.f2 (xP _ w _ _ _) (.agg (aj0 _ c))) (eM Tryz.f199 (h:=?_))
 have n:∀b:ah,eC 7 ((dV.push (an (jb d k i f) 0)).push (an (vX d c) 0)) b->GT b/\b.get 5=an (jb d k i f) 0/\b.get 6=an (vX d c) 0:=λb hh=>⟨hh.gt bH,by rw[hh.1 5 ai];simp only[go_sem],by rw[hh.1 6 ai];simp only[go_sem]⟩
 have z:((64:Int)<(c.ps.length:Int))=False:=eq_false aa;have A:((c.ms.length:Int)=(af f:Int))=True:=eq_true aa;have E:di (fl d)=some (.val (aj d)):=rfl;simp only[go_sem,nq,jb,vX];refine bq (awb h) bH ?_;simp only[go_sem];refine bq asV bH ?_;simp only[go_sem,z,A];refine each c.ps.length [2,3,32,33] 7 (λ_ _ _=>True) ?_ ?_ aa ai (aJ 7) (λ_ _ _ _ _ _ h=>h) trivial ?_ ?_
 iterate 2 simp only[go_sem]
 .intro m x b t e hh hi _;simp only[go_sem]at e;obtain⟨g,v,q⟩:=n b hh;obtain⟨a,s,r⟩:=gw t;have u:=jO (asz d) r;have D:=hh.2;simp(disch:=omega)only[go_sem,e,hi,iq,u,sE,v,q,jb,vX,ek (aa:5<b.ag),ek (aa:6<b.ag)];refine bq (av_ d w _ k i f rfl a (o.ps a s) aa) bH ?_;simp only[go_sem,e,hi];exact kb
 .intro x b e hh _;simp only[go_sem]at e;obtain⟨g,v,q⟩:=n b hh;simp only[go_sem,e,q,vX];refine each c.ms.length [2,3,46,47] 7 (λ_ _ _=>True) ?_ ?_ aa ai hh.2 (λ_ _ _ _ _ _ h=>h) trivial ?_ ?_
  iterate 2 simp only[go_sem]
  .intro m y j t l p hi _;simp only[go_sem,e]at l;obtain⟨F,B,C⟩:=n j (hh.trans p);obtain⟨a,s,r⟩:=gw t;have u:=jO (au7 d) r;have D:=p.2;simp(disch:=omega)only[go_sem,l,hi,iq,u,sL,ee,C,vX,ek (aa:6<j.ag)];refine bq (UE d aa a (o.ms a s)) bH ?_;simp only[go_sem,l,B,jb,E,ek (aa:5<j.ag)];refine bq (Rh d a) bH ?_;simp only[go_sem,e,l,hi];exact kb
  .intro y j l p _;simp only[go_sem];exact bO (n j (hh.trans p)).1 rfl (.bool _)
inductive pZ where
 |Jj
 |iS (k:Int)
 |cert (low:Bool) (c:yy)
inductive xl where
 |split (v:Nat) (a:Rat) (l r:Nat)
 |leaf (f:pZ)
def eS(n:Nat):xl->au
 |.split v a l r=>[.int .i64 1,.int .i64 (v:Int),.str (aO a),.int .i64 (l:Int),.int .i64 (r:Int),.int .i64 0,.aA,.aA,.int .i64 0]
 |.leaf .Jj=>[.int .i64 5,.int .i64 0,.str [],.int .i64 0,.int .i64 0,.int .i64 0,.aA,.aA,.int .i64 0]
 |.leaf (.iS k)=>[.int .i64 4,.int .i64 0,.str [],.int .i64 0,.int .i64 0,.int .i64 0,.aA,.aA,.int .i64 k]
 |.leaf (.cert b c)=>[.int .i64 (bif b then 2 else 3),.int .i64 0,.str [],.int .i64 0,.int .i64 0,.int .i64 1,bE (sE n) c.ps,bE (sL n) c.ms,.int .i64 0]
theorem x6(n:Nat)(x:xl):af (eS n x)=9:=by rcases x with _|(_|_|_)<;>rfl
def zd(n:Nat)(x:xl):ct (eS n x):=by rcases x with _|(_|_|_)<;>(unfold eS;repeat' (first|exact hH (Ig n) _|exact hH (A1 n) _|constructor))
def uc(q:Rat):(aO q=[])=False:=eq_false λh=>by have e:=rz q;rw[h]at e;cases e
def SJ(n:Nat)(x:xl):cU 137 [.agg (eS n x)] cY:=by
 refine dg (.f1 (.agg (zd n x))) (eM Tryz.f137 (h:=?_));rcases x with⟨v,a,l,r⟩|(_|_|⟨b,c⟩)
 .by_cases h:(v:Int)=0
  .simp only[go_sem,eS,h,WH,uc];exact bO bH rfl (.bool _)
  .simp only[go_sem,eS,h];exact bO bH rfl (.bool _)
 .simp only[go_sem,eS];exact bO bH rfl (.bool _)
 .simp only[go_sem,eS];exact bO bH rfl (.bool _)
 .cases b<;>(simp only[go_sem,eS,cond_true,cond_false];exact bO bH rfl (.bool _))
theorem EX{a:Rat}(c:h<a):e6 (a-h)=1:=by
 have d:0<=(a-h).num:=Rat.num_nonneg.2 b4;have b:(a-h).num≠0:=λe=>by have:=Rat.num_eq_zero.1 e;grind
 unfold e6;rw[ao aa,ao b]
theorem yf{a:Rat}(b:a<h):e6 (a-h)= -1:=by
 have c:¬0<=(a-h).num:=λe=>by have:=Rat.num_nonneg.1 e;grind
 unfold e6;rw[ay aa]
def tr(a:Rat)(s:dF):Prop:=(s.hl=true->s.lo<a)/\(s.hh=true->a<s.hi)
def V9(a:Rat)(s:dF)(g:aM 300 a)(k:nT 300 s)(j:tr a s)(hl:af (aO a)<=500/\af (aO s.lo)<=500/\af (aO s.hi)<=500):cU 93 [.str (aO a),.agg (bZ (gB s))] cY:=by
 obtain⟨lo,hi,l,h⟩:=s;obtain⟨m,n⟩:=k;obtain⟨i,c⟩:=j;have v:=vw (aO a) hl.1;have d:=tA (aO a) (aO lo) hl.1 hl.2.1 (a:=300) (b:=300) (by rw[eT];exact g) (by rw[eT];exact m) ai;have b:=tA (aO a) (aO hi) hl.1 hl.2.2 (a:=300) (b:=300) (by rw[eT];exact g) (by rw[eT];exact n) ai;rw[rz,Option.isSome_some]at v;rw[eT,eT]at d b;refine dg (.f2 .ss (.agg (lZ _))) (eM Tryz.f93 (h:=?_));simp only[go_sem,bZ,gB];refine bq v bH ?_;cases l
 .cases h
  .simp only[go_sem,if_false,jk];exact bO bH rfl (.bool _)
  .have e:=yf (c rfl);simp only[go_sem,if_false,jk,uc];refine bq b bH ?_;simp only[go_sem,e];exact bO bH rfl (.bool _)
 .have f:=EX (i rfl);simp only[go_sem,if_false,jk,uc];refine bq d bH ?_;cases h
  .simp only[go_sem,if_false,jk,f];exact bO bH rfl (.bool _)
  .have e:=yf (c rfl);simp only[go_sem,if_false,jk,uc,f];refine bq b bH ?_;simp only[go_sem,e];exact bO bH rfl (.bool _)
def atC(h:0<d):pI false (.slice a) [.row d c,.aA]=some (.val aR):=by obtain⟨m,rfl⟩:∃m,d=m+1:=⟨d-1,aa⟩;rfl
def g6{a:Nat}(h:a≠d):(a=d)=False:=eq_false h
def Xr(l:List e4)(h:0<af l/\af l<=1000)(H:ah):dm 198 [bE bZ l] H λv a=>v=.slice (H.ag+1) 0 (af l) (.grown 2)/\a=((H.push (an [] 0)).push (an (c3 bZ l) (H.ag+2))).push (.bV (H.ag+1) (H.ag+1)):=by refine eM Tryz.f198 (h:=?_);simp only[go_sem,bE,atC h.1];refine HY eJ h.1 (lN bZ mm l) ⟨aa,ai⟩ ?_;simp only[go_sem]
theorem GD(l:List e4)(h:0<af l/\af l<=1000)(H:ah):dm 136 [ia l] H λv a=>∃b,H.ag<=b/\b+1<a.ag/\v=.agg [.slice b 0 (af l) (.grown 2)]/\dB a b (b+1) (c3 bZ l)/\∀y,y<H.ag->a.get y=H.get y:=by
 refine eM Tryz.f136 (h:=?_);simp only[go_sem,ia,ek (aa:H.ag<H.ag+1)];refine(Xr l h _).mono λv a ⟨c,d⟩=>?_
 subst c d;simp(disch:=omega)only[go_sem,g6];refine⟨H.ag+3,aa,aa,rfl,⟨?_,⟨H.ag+3,?_,aJ _⟩,Nat.succ_ne_zero _⟩,λy e=>?_⟩
 .simp(disch:=omega)only[go_sem,g6]
 .simp(disch:=omega)only[go_sem,g6]
 grind
theorem IU{c:f->au}(h:∀a,af (c a)=d)(k:0<d){e:List f}(l:af e=D)(g:dB b m (m+1) (c3 c e))(i:GT b)(u:m+1<b.ag):bS b (dV.nW b.ag) (.slice m 0 D (.grown d)) (bE c e):=by
 subst l;obtain⟨r,n,o⟩:=g.bV;refine uV h k (.cells g.row n o g.ne (lN c h e) aa aa) (dn.refl _) (λy t j=>?_) (lN c h e);rw[ah.sq,lF];by_cases p:y=0
 .subst p;rw[i.og]at j;grind
 by_cases q:y=1
 .subst q;rw[i.o7]at j;grind
 by_cases s:y=4
 .subst s;rw[i.sM]at j;grind
 grind
def XS(l:List e4)(h:0<af l/\af l<=1000):cU 136 [ia l] (ia l):=by refine dg (.f1 (qg l)) ((GD l h dV).mono λv a ⟨b,i,f,c,d,e⟩=>?_);subst c;have g:GT a:=e5.keep e;exact⟨g,_,.agg (.f1 (IU mm ai rfl d g f)),qg l,rfl⟩
def JW{f:e4->au}(c:∀a,af (f a)=2):∀(l:List e4) (i:Nat) (o:Nat) (v:V) (b:e4),o<2->(∀a,l[i]? =some a->(f a).set o v=f b)->i<af l->(c3 f l).set (i*2+o) v=c3 f (l.set i b)
 |[],i,_,_,_,_,_,h=>(nP i h).elim
 |a::l,0,o,v,b,e,d,_=>by rw[j4,eW,c3,List.set_append_left _ _ (by rw[c];exact e),d a rfl];rfl
 |a::l,i+1,o,v,b,e,d,h=>by rw[c3,List.set_append_right _ _ (by rw[c];omega),c,(aa:(i+1)*2+o-2=i*2+o),JW c l i o v b e d (Nat.lt_of_succ_lt_succ h)];rfl
def q9(l:List e4)(i:Nat)(a:aW):List e4×List e4:=(l.set i ((l.getD i ([],[])).1,a),l.set i (a,(l.getD i ([],[])).2))
theorem alC(l:List e4)(h:0<af l/\af l<=1000)(i:Nat)(hi:i<af l)(a:aW):cU 139 [ia l,aj i,.str a] (.aH [ia (q9 l i a).1,ia (q9 l i a).2]):=by
 refine dg (.f3 (qg l) .ii .ss) (eM Tryz.f139 (h:=?_));simp only[go_sem,ia];refine(GD l h _).mono λv1 E ⟨b,Y,p2,F,I,k⟩=>?_
 subst F;have q1:10<=b:=Y;have s:=k 5 (jI rfl);have d6:=k 6 (jI rfl);have d7:=k 7 (jI rfl);have d8:=k 8 (jI rfl);have d9:=k 9 (jI rfl);simp only[go_sem]at s d6 d7 d8 d9;simp only[go_sem,s];refine(GD l h _).mono λv2 e ⟨d,r1,r2,G,J,j⟩=>?_
 subst G;have ae:10<=E.ag:=aa;have N:e.get 8=an [.aA] 0:=by rw[j 8 aa];exact d8
 have O:e.get 9=an [.aA] 0:=by rw[j 9 aa];exact d9
 have L:e.get 6=an [.aA] 0:=by rw[j 6 aa];exact d6
 have M:e.get 7=an [.aA] 0:=by rw[j 7 aa];exact d7
 simp only[go_sem,N,O];obtain⟨c,g⟩:∃c,c=(e.set 8 (an [.slice b 0 (af l) (.grown 2)] 0)).set 9 (an [.slice d 0 (af l) (.grown 2)] 0):=⟨_,rfl⟩;rw[<-g];have p:∀y,10<=y->c.get y=e.get y:=λy o=>by rw[g];simp(disch:=omega)only[go_sem,g6]
 have w:dB c b (b+1) (c3 bZ l):=(I.keep (j _ aa) (j _ aa)).keep (p _ aa) (p _ aa);have U:dB c d (d+1) (c3 bZ l):=J.keep (p _ aa) (p _ aa);have u:c.get 8=an [.slice b 0 (af l) (.grown 2)] 0:=by rw[g];simp only[go_sem]
 have v:c.get 9=an [.slice d 0 (af l) (.grown 2)] 0:=by rw[g];simp only[go_sem]
 have R:c.get 6=an [.aA] 0:=by rw[g];simp only[go_sem,L]
 have S:c.get 7=an [.aA] 0:=by rw[g];simp only[go_sem,M]
 have Q:i*2+1<af (c3 bZ l):=by rw[lN bZ mm];omega
 have s1:=Kg (v:=.str a) w Q ⟨rfl,rfl,rfl⟩;have z:=U.other (cs':=(c3 bZ l).set (i*2+1) (.str a)) (b':=b) (g':=b+1) aa aa aa aa;have s2:=Kg (o:=i*2) (v:=.str a) z aa ⟨rfl,rfl,rfl⟩;have T:(ah.wr c b (b+1) ((c3 bZ l).set (i*2+1) (.str a))).get 9=an [.slice d 0 (af l) (.grown 2)] 0:=by rw[qi aa aa];exact v
 have P:(0:Int)<=(i:Int)/\(i:Int)<((af l:Nat):Int):=aa;simp only[go_sem,u,cH P,s1,T,s2];have l3:=z.written (((c3 bZ l).set (i*2) (.str a)));have l4:=((w.written ((c3 bZ l).set (i*2+1) (.str a)))).other (cs':=(c3 bZ l).set (i*2) (.str a)) (b':=d) (g':=d+1) aa aa aa aa;have X:c.ag=e.ag:=by rw[g];rfl
 have m:∀y,y<10->(ah.wr (ah.wr c b (b+1) ((c3 bZ l).set (i*2+1) (.str a))) d (d+1) ((c3 bZ l).set (i*2) (.str a))).get y=c.get y:=λy o=>by grind [qi]
 have C:=(m 8 ai).trans u;have D:=(m 9 ai).trans v;have A:=(m 6 ai).trans R;have B:=(m 7 ai).trans S;have H:GT c:=by
  refine e5.keep λy o=>?_
  rw[g];simp(disch:=omega)only[go_sem,g6];rw[j y aa,k y (fy o (jI rfl))];simp(disch:=omega)only[go_sem,g6]
 obtain⟨f,q⟩:∃f,f=ah.wr (ah.wr c b (b+1) ((c3 bZ l).set (i*2+1) (.str a))) d (d+1) ((c3 bZ l).set (i*2) (.str a)):=⟨_,rfl⟩;have al:f.ag=e.ag:=by rw[q];exact X
 have K:GT f:=H.keep λy o=>by rw[q];exact m y aa
 rw[<-q]at C D A B l3 l4⊢;simp only[go_sem,C,D,A,B];have t:∀x,l[i]? =some x->l.getD i ([],[])=x:=λx n=>by grind
 have Z:(c3 bZ l).set (i*2+1) (.str a)=c3 bZ (q9 l i a).1:=JW mm l i 1 _ _ ai (λx n=>by rw[t x n];rfl) hi;have ab:(c3 bZ l).set (i*2) (.str a)=c3 bZ (q9 l i a).2:=JW mm l i 0 _ _ ai (λx n=>by rw[t x n];rfl) hi;rw[Z]at l4;rw[ab]at l3;have V:=(l3.keep (H':=(f.set 6 (an [.slice b 0 (af l) (.grown 2)] 0)).set 7 (an [.slice d 0 (af l) (.grown 2)] 0)) (by simp(disch:=omega)only[go_sem,g6]) (by simp(disch:=omega)only[go_sem,g6]));have W:=(l4.keep (H':=(f.set 6 (an [.slice b 0 (af l) (.grown 2)] 0)).set 7 (an [.slice d 0 (af l) (.grown 2)] 0)) (by simp(disch:=omega)only[go_sem,g6]) (by simp(disch:=omega)only[go_sem,g6]));have r:=(K.set (ai:5<=6) (an [.slice b 0 (af l) (.grown 2)] 0)).set (ai:5<=7) (an [.slice d 0 (af l) (.grown 2)] 0);exact⟨r,_,.aH (.f2 (.agg (.f1 (IU mm ai (by simp[q9]) W r (by show b+1<f.ag;omega)))) (.agg (.f1 (IU mm ai (by simp[q9]) V r (by show d+1<f.ag;omega))))),.aH (.f2 (qg _) (qg _)),rfl⟩
def w_(p:fM)(bs:List e4):pZ->Prop
 |.Jj=>True
 |.iS k=> -1<=k/\k<((p.is.length+p.es.length:Nat):Int)/\bs.all qe=true
 |.cert _ c=>c.aG p.n (af (p.is++kR p.n 0 bs)) p.es.length
def atd(p:fM)(h:p.aG)(bs:List e4)(c:af bs=p.n)(b:∀s∈bs,mJ s.1/\mJ s.2):FR p.n p.obj (p.is++kR p.n 0 bs) p.es:=by
 have a:=h.n;have e:=h.li;have d:=h.le;have f:=EM p.n 0 bs;refine⟨a,sD a ai h.obj,λq hq=>?_,λq hq=>sD a ai (h.es q hq),by rw[bw];omega,aa⟩;rcases ki.1 hq with hq|hq
 .exact sD a ai (h.is q hq)
 .exact JU p.n a 0 bs aa b q hq
def av9(p:fM)(h:p.aG)(bs:List e4)(a:af bs=p.n)(e:∀s∈bs,mJ s.1/\mJ s.2)(f:pZ)(d:w_ p bs f):cU 138 [hC p,ia bs,.agg (eS p.n (.leaf f))] cY:=by
 have o:=h.n;refine dg (.f3 (q2 p o) (qg bs) (.agg (zd _ _))) (eM Tryz.f138 (h:=?_));rcases f with _|k|⟨b,c⟩
 .simp only[go_sem,hC,ia,eS];exact bO bH rfl (.bool _)
 .obtain⟨t,l,m⟩:=d;have v:=h.li;have u:=h.le;have g:(k< -1)=False:=eq_false aa;have i:aE .i64 ((p.is.length:Int)+(p.es.length:Int))=((p.is.length+p.es.length:Nat):Int):=by rw[aK _ aa];omega
  have j:(k<((p.is.length+p.es.length:Nat):Int))=True:=eq_true l;simp only[go_sem,hC,ia,eS,g,i,j];refine bq (λH _=>Wx bs aa H) bH ?_;simp only[go_sem,m];exact bO bH rfl (.bool _)
 .have q:=atc p h bs a e;have r:=av8 (atd p h bs a e) c d;cases b<;>
  .simp only[go_sem,hC,ia,eS,cond_true,cond_false];refine bq q bH ?_;simp only[go_sem,nq,jb];refine bq r bH ?_;simp only[go_sem];exact bO bH rfl (.bool _)
def fc:dF:=⟨0,0,false,false⟩
def qk(l:List dF)(i:Nat)(a:Rat):List dF:=l.set i ⟨(l.getD i fc).lo,a,(l.getD i fc).hl,true⟩
def qx(l:List dF)(i:Nat)(a:Rat):List dF:=l.set i ⟨a,(l.getD i fc).hi,true,(l.getD i fc).hh⟩
structure aY where
 s:Nat
 v:Nat->Nat
 a:Nat->Rat
 gh:Nat->pZ
 bs:Nat->List dF
def aY.er(t:aY)(n:Nat):List e4:=(t.bs n).map gB
def aY.nd(t:aY)(n:Nat):xl:=if n<t.s then .split (t.v n) (t.a n) (2*n+1) (2*n+2)else .leaf (t.gh n)
def aY.jf(t:aY):List xl:=(kZ (2*t.s+1)).map t.nd
structure aY.aG (t:aY) (p:fM):Prop where
 s:t.s<=3
 len:∀n,n<=2*t.s->af (t.bs n)=p.n
 q:∀n,n<=2*t.s->∀x∈t.bs n,nT 81 x
 v:∀n,n<t.s->t.v n<p.n
 CT:∀n,n<t.s->aM 81 (t.a n)
 er:∀n,n<t.s->tr (t.a n) ((t.bs n).getD (t.v n) fc)
 l:∀n,n<t.s->t.bs (2*n+1)=qk (t.bs n) (t.v n) (t.a n)
 r:∀n,n<t.s->t.bs (2*n+2)=qx (t.bs n) (t.v n) (t.a n)
 gh:∀n,t.s<=n->n<=2*t.s->w_ p (t.er n) (t.gh n)
 rt:∀x∈t.bs 0,nT 9 x/\(x.hl=true->x.hh=true->x.lo<x.hi)
def jY(t:aY)(n:Nat)(b:Rat):au:=[bE bZ (t.er 0),.str (aO b),bE (eS n) t.jf]
def awI(l:List dF)(i:Nat)(a:Rat)(hi:i<af l):(qk l i a).map gB=(q9 (l.map gB) i (aO a)).1:=by unfold qk q9;rw[List.map_set,bT,bT,hY,c4 hi];rfl
def awJ(l:List dF)(i:Nat)(a:Rat)(hi:i<af l):(qx l i a).map gB=(q9 (l.map gB) i (aO a)).2:=by unfold qx q9;rw[List.map_set,bT,bT,hY,c4 hi];rfl
def lW(t:aY)(a:Nat):Nat->Nat->au
 |0,_=>[]
 |k+1,j=>(if j<=a then bE bZ (t.er j)else .aA)::lW t a k (j+1)
def nG(a:Nat):Nat->Nat->au
 |0,_=>[]
 |k+1,j=>.bool (decide (j<=a))::nG a k (j+1)
def qD(b:aM a h)(c:a<=81):af (aO h)<=500:=by have:=Ku (b.mono aa);omega
def arO{x:dF}(h:nT 81 x):mJ (gB x).1/\mJ (gB x).2:=by
 have b:∀q:Rat,aM 81 q->mJ (aO q):=λq a=>.inr ⟨by rw[rz,eT],by rw[eT];exact a,qD a ai⟩
 show mJ (if x.hl=true then _ else _)/\mJ (if x.hh=true then _ else _);exact⟨by split;exact b _ h.1;exact .inl rfl,by split;exact b _ h.2;exact .inl rfl⟩
def av4{x:dF}(h:x.hl=true->x.hh=true->x.lo<x.hi):sU (gB x)=true:=by
 have b:∀q:Rat,tQ (aO q)=true:=λq=>by unfold tQ;rw[rz];simp
 have a:tQ []=true:=rfl;obtain⟨lo,hi,l,u⟩:=x;unfold sU gB;cases l<;>cases u<;>simp[b,a,uc,eT];have:=yf (h rfl rfl);simp only at this;omega
def av3(n:Nat)(l:List dF)(hl:af l=n)(h:∀x∈l,x.hl=true->x.hh=true->x.lo<x.hi):Ab n (l.map gB)=true:=by unfold Ab;rw[de,qJ];refine⟨by rw[gD,hl];simp,λs a=>?_⟩;obtain⟨x,b,rfl⟩:=g8.1 a;exact av4 (h x b)
def tu(l:List e4):au:=[bE bZ l]
theorem wG(t:aY):t.jf.length=2*t.s+1:=by simp[aY.jf]
def Tq(t:aY):∀n j,rep [V.aA] n=lW t 0 n (j+1)
 |0,_=>rfl
 |n+1,j=>by rw[BP,Tq t n (j+1),lW,ao aa];rfl
def Tr:∀n j,rep [V.bool false] n=nG 0 n (j+1)
 |0,_=>rfl
 |n+1,j=>by rw[BP,Tr n (j+1),nG,bP aa];rfl
theorem CZ(t:aY)(a:Nat):∀k j,af (lW t a k j)=k
 |0,_=>rfl
 |k+1,j=>by rw[lW,dZ,CZ]
def AH(t:aY)(a:Nat):∀k j i,(lW t a k j)[i]? =if i<k then some (if j+i<=a then bE bZ (t.er (j+i))else .aA)else none
 |0,_,_=>by rw[lW,ao aa];rfl
 |k+1,j,0=>by rw[ay (mA k)];rfl
 |k+1,j,i+1=>by rw[lW,List.getElem?_cons_succ,AH t a k (j+1) i,(aa:j+1+i=j+(i+1))];simp only[Nat.add_lt_add_iff_right]
theorem EG(a:Nat):∀k j,af (nG a k j)=k
 |0,_=>rfl
 |k+1,j=>by rw[nG,dZ,EG]
def BN(a:Nat):∀k j i,(nG a k j)[i]? =if i<k then some (.bool (decide (j+i<=a)))else none
 |0,_,_=>by rw[nG,ao aa];rfl
 |k+1,j,0=>by rw[ay (mA k)];rfl
 |k+1,j,i+1=>by rw[nG,List.getElem?_cons_succ,BN a k (j+1) i,(aa:j+1+i=j+(i+1))];simp only[Nat.add_lt_add_iff_right]
def WO(t:aY)(m k:Nat)(h:2*m+2<k):((lW t (2*m) k 0).set (2*m+1) (bE bZ (t.er (2*m+1)))).set (2*m+2) (bE bZ (t.er (2*m+2)))=lW t (2*(m+1)) k 0:=by
 refine oC λi=>?_
 rw[rS,rS,iO,CZ,AH,AH];simp only[eW];by_cases a:i=2*m+2
 .subst a;rw[ay rfl,ay h,ay h,ay aa]
 .by_cases b:i=2*m+1
  .subst b;rw[ao aa,ay rfl,ay aa,ay aa,ay aa]
  .rw[ao (λe=>a e.symm),ao (λe=>b e.symm)];have e:(if i<=2*m then bE bZ (t.er i)else V.aA)=if i<=2*(m+1)then bE bZ (t.er i)else V.aA:=by
    by_cases c:i<=2*m
    .rw[ay c,ay aa]
    .rw[ao c,ao aa]
   rw[e]
def as5(m k:Nat)(h:2*m+2<k):((nG (2*m) k 0).set (2*m+1) cY).set (2*m+2) cY=nG (2*(m+1)) k 0:=by
 refine oC λi=>?_
 rw[rS,rS,iO,EG,BN,BN];simp only[eW];by_cases a:i=2*m+2
 .subst a;rw[ay rfl,ay h,ay h,b3 aa]
 .by_cases b:i=2*m+1
  .subst b;rw[ao aa,ay rfl,ay aa,ay aa,b3 aa]
  .rw[ao (λe=>a e.symm),ao (λe=>b e.symm)];rw[show decide (i<=2*m)=decide (i<=2*(m+1))from decide_eq_decide.2 aa]
def zB:∀ {a:au}{i:Nat}{v:V},dw a i=some v->cW (eH a i) 1=some [v]
 |[],0,_,h=>by cases h
 |[],_+1,_,h=>by cases h
 |c::a,0,v,h=>by rw[ap3]at h;cases h;rw[dQ,Sd,Bi];rfl
 |c::a,i+1,v,h=>by rw[R5]at h;rw[RY];exact zB h
def Mc(t:aY)(a:Nat):∀k j,j+k<=a+1->lW t a k j=c3 tu ((List.range' j k).map t.er)
 |0,_,_=>rfl
 |k+1,j,h=>by rw[lW,ay aa,Mc t a k (j+1) aa];rfl
def aY.r9(t:aY):List (List e4):=(List.range' 0 (2*t.s+1)).map t.er
theorem Qd(p:fM)(h:p.aG)(t:aY)(j:t.aG p)(b:Rat)(hb:aM 81 b):cU 79 [hC p,.agg (jY t p.n b)] (.aH [bE tu t.r9,cY]):=by
 have hn:=h.n;have hs:=j.s;have l0:af (t.er 0)=p.n:=by rw[aY.er,gD];exact j.len 0 aa
 have G:=av7 p h (t.er 0) (λb1 hs=>by obtain⟨x,E,rfl⟩:=g8.1 hs;exact awK (j.rt x E).1) aa;rw[show Ab p.n (t.er 0)=true from av3 _ _ (j.len 0 aa) λx E=>(j.rt x E).2]at G;have hr:=vw (aO b) (qD hb ai);rw[rz,Option.isSome_some]at hr;have c1:((t.jf.length:Int)<1)=False:=eq_false (by rw[wG];omega);have c2:((256:Int)<(t.jf.length:Int))=False:=eq_false (by rw[wG];omega);have cb:=XS (t.er 0) aa;refine dg (.f2 (q2 p hn) (.agg (.f3 (hH lZ _) .ss (hH (zd _) _)))) (eM Tryz.f79 (h:=?_));simp only[go_sem,hC,jY];refine bq G bH ?_;simp only[go_sem];refine bq hr bH ?_;have m1:∀(k:Nat) (S:au),k=24\/k=1->l_ k S [aj t.jf.length,aj t.jf.length]=some (.new (rep S (2*t.s+1)) (.slice (2*t.s+1) (2*t.s+1))):=λk S u=>by grind [iG,wG,cg]
 simp only[go_sem,c1,c2,m1 24 _ (.inl rfl),m1 1 _ (.inr rfl)];refine bq cb bH ?_;have bj:(0:Int)<=0/\(0:Int)<((2*t.s+1:Nat):Int):=aa;simp only[go_sem,ia,cH bj,RS];rw[Tq t _ 0,Tr _ 0,show bE bZ (t.er 0)::lW t 0 (2*t.s) (0+1)=lW t 0 (2*t.s+1) 0 from(by rw[lW,ay (aJ 0)]),show V.bool true::nG 0 (2*t.s) (0+1)=nG 0 (2*t.s+1) 0 from rfl]
 have U:∀d:ah,eC 7 ((dV.push (an [fl p.n,aj p.n,fq p.obj,dc p.n p.is,dc p.n p.es] 0)).push (an (jY t p.n b) 0)) d->GT d/\d.get 5=an [fl p.n,aj p.n,fq p.obj,dc p.n p.is,dc p.n p.es] 0/\d.get 6=an (jY t p.n b) 0:=λd hh=>⟨hh.gt bH,by rw[hh.1 5 ai];simp only[go_sem],by rw[hh.1 6 ai];simp only[go_sem]⟩
 refine each (2*t.s+1) [2,3,6,7,49,50] 7 (λm _ H=>H.get 7=an (lW t (2*min m t.s) (2*t.s+1) 0) 0/\H.get 8=an (nG (2*min m t.s) (2*t.s+1) 0) 0/\9<=H.ag) ?_ ?_ aa ai ?_ (λ_ _ _ _ _ _ h=>h) ?_ ?_ ?_
 iterate 2 simp only[go_sem,wG]
 .simp only[go_sem];omega
 .refine⟨?_,?_,?_⟩
  iterate 2 simp only[go_sem,Nat.zero_min,gj]
  .simp only[go_sem];omega
 .intro m ar d Z u hh hi ⟨o,w,h9⟩;simp only[go_sem]at u;obtain⟨g,K,R⟩:=U d ⟨λy I=>(hh.1 y I).trans (by simp(disch:=omega)only[go_sem,g6,jY]),hh.2⟩;have a':t.jf[m]? =some (t.nd m):=by rw[aY.jf,hY,p4 Z];rfl
  have F:=jO (x6 p.n) a';have bo:m<t.jf.length:=by rw[wG];exact Z
  by_cases z:m<t.s
  .rw[p7 (ja z)]at o w;rw[show t.nd m=.split (t.v m) (t.a m) (2*m+1) (2*m+2)from ay z]at F;have N:=SJ p.n (.split (t.v m) (t.a m) (2*m+1) (2*m+2));have bv:=j.v m z;obtain⟨x,E⟩:∃x,x=(t.bs m).getD (t.v m) fc:=⟨_,rfl⟩;have a7:af (t.bs m)=p.n:=j.len m aa;have ae:(t.bs m)[t.v m]? =some x:=by rw[E,bT,c4 aa];rfl
   have L:=j.q m aa x (fL ae);have r2:=jO (f:=bZ) mm (show(t.er m)[t.v m]? =some (gB x) by rw[aY.er,hY,ae];rfl);have W:=j.er m z;rw[<-E]at W;have aw:=V9 (t.a m) x ((j.CT m z).mono aa) ⟨L.1.mono aa,L.2.mono aa⟩ W ⟨qD (j.CT m z) ai,qD L.1 ai,qD L.2 ai⟩;have M:af (t.er m)=p.n:=by rw[aY.er,gD];exact a7
   have G:=alC (t.er m) aa (t.v m) aa (aO (t.a m));rw[show(q9 (t.er m) (t.v m) (aO (t.a m))).1=t.er (2*m+1) by rw[aY.er,aY.er,j.l m z,awI _ _ _ aa],show(q9 (t.er m) (t.v m) (aO (t.a m))).2=t.er (2*m+2) by rw[aY.er,aY.er,j.r m z,awJ _ _ _ aa]]at G;have J:∀i,i<=2*t.s->dw (nG (2*m) (2*t.s+1) 0) i=some (.bool (decide (i<=2*m))):=λi h=>by rw[iu,BN,ay aa,eW]
   have O:dw (lW t (2*m) (2*t.s+1) 0) m=some (bE bZ (t.er m)):=by simp_all [iu,AH,ay,eW];omega
   have T:((m:Int)<((2*m+1:Nat):Int))=True/\((m:Int)<((2*m+2:Nat):Int))=True/\(((2*m+1:Nat):Int)<(t.jf.length:Int))=True/\(((2*m+2:Nat):Int)<(t.jf.length:Int))=True/\(((2*m+1:Nat):Int)=((2*m+2:Nat):Int))=False/\((t.v m:Int)<0)=False/\((t.v m:Int)<(p.n:Int))=True:=by rw[wG];exact⟨eq_true aa,eq_true aa,eq_true aa,eq_true aa,eq_false aa,eq_false aa,eq_true aa⟩
   have Q:decide (m<=2*m)=true/\decide (2*m+1<=2*m)=false/\decide (2*m+2<=2*m)=false:=⟨b3 aa,bP aa,bP aa⟩;have ab:di (fl p.n)=some (.val (aj p.n)):=rfl;have A:=ek (aa:5<d.ag);have B:=ek (aa:6<d.ag);have C:=ek (aa:7<d.ag);have D:=ek (aa:8<d.ag);have w1:dj [V.bool true] (nG (2*m) (2*t.s+1) 0) (2*m+1)=some _:=fE (by rw[EG];omega);have w2:dj [V.bool true] ((nG (2*m) (2*t.s+1) 0).set (2*m+1) cY) (2*m+2)=some _:=fE (by grind [iO,EG]);have w3:dj [bE bZ (t.er (2*m+1))] (lW t (2*m) (2*t.s+1) 0) (2*m+1)=some _:=fE (by rw[CZ];omega);have bi:dj [bE bZ (t.er (2*m+2))] ((lW t (2*m) (2*t.s+1) 0).set (2*m+1) (bE bZ (t.er (2*m+1)))) (2*m+2)=some _:=fE (by grind [iO,CZ]);simp(disch:=omega)only[go_sem,u,hi,iq,F,eS,o,w,cH,J,A,B,C,D,Q];refine bq N bH ?_;simp(disch:=omega)only[go_sem,u,o,w,K,R,jY,cH,iq,J,O,r2,ab,A,B,C,D,T,Q,M];refine bq aw bH ?_;simp(disch:=omega)only[go_sem,u,o,w,K,R,jY,cH,iq,J,O,r2,ab,A,B,C,D,T,Q,M,w1,w2];have P:=zB O;have a5:ia (t.er (2*m+1))=.agg [bE bZ (t.er (2*m+1))]/\ia (t.er (2*m+2))=.agg [bE bZ (t.er (2*m+2))]:=⟨rfl,rfl⟩;simp(disch:=omega)only[go_sem,u,o,w,P,A,B,C,D];refine bq G bH ?_;simp(disch:=omega)only[go_sem,u,o,w,cH,A,B,C,D,a5,w3,bi,hi,p7,show m+1<=t.s from z];rw[WO t m _ aa,as5 m _ aa];exact⟨kb,rfl,rfl,aa⟩
  .have X:t.s<=m:=aa;rw[Nat.min_eq_right X]at o w;rw[show t.nd m=.leaf (t.gh m)from ao z]at F;have N:=SJ p.n (.leaf (t.gh m));have M:af (t.er m)=p.n:=by rw[aY.er,gD];exact j.len m aa
   have ap:=av9 p h (t.er m) M (λy I=>by obtain⟨x,E,rfl⟩:=g8.1 I;exact arO (j.q m aa x E)) (t.gh m) (j.gh m X aa);have J:dw (nG (2*t.s) (2*t.s+1) 0) m=some cY:=by simp_all [iu,BN,ay,b3];omega
   have P:=zB (show dw (lW t (2*t.s) (2*t.s+1) 0) m=some (bE bZ (t.er m)) by simp_all [iu,AH,ay,eW];omega);have A:=ek (aa:5<d.ag);have B:=ek (aa:6<d.ag);have C:=ek (aa:7<d.ag);have D:=ek (aa:8<d.ag);have a8:min (m+1) t.s=t.s:=Nat.min_eq_right aa;obtain⟨f,hf⟩:∃f,f=t.gh m:=⟨_,rfl⟩;rw[<-hf]at F N ap;rcases f with _|k|⟨c,e⟩
   all_goals try cases c
   all_goals
    simp(disch:=omega)only[go_sem,u,hi,iq,F,eS,o,w,cH,J,A,B,C,D,cond_true,cond_false];refine bq N bH ?_;simp(disch:=omega)only[go_sem,u,o,w,K,cH,P,A,B,C,D];refine bq ap bH ?_;simp only[go_sem,u,o,w,A,B,C,D,hi,a8];refine⟨kb,?_⟩;omega
 .intro ar d u hh ⟨o,w,h9⟩;simp only[go_sem]at u;obtain⟨g,K,R⟩:=U d ⟨λy I=>(hh.1 y I).trans (by simp(disch:=omega)only[go_sem,g6,jY]),hh.2⟩;rw[Nat.min_eq_right aa,Mc t _ _ _ aa]at o;change d.get 7=an (c3 tu t.r9) 0 at o;have Y:t.r9.length=2*t.s+1:=by unfold aY.r9;grind
  simp only[go_sem,u];refine⟨g,_,.aH (.f2 (.row (m:=2*t.s+1) ?_ aa ?_ (dn.refl (c3 tu t.r9))) .mm),.aH (.f2 (.row _ (Ii tu (λba=>.f1 (hH lZ ba)) t.r9)) .bb),?_⟩
  .rw[fO o,dQ];exact je (by rw[lN tu (k:=1) λ_=>rfl,Y,eD])
  .simp_all [ah.sq,lF,ao]
  .unfold bE;rw[Y]
def DG(t:aY)(n:Nat)(b:Rat):ct (jY t n b):=.f3 (hH lZ _) .ss (hH (zd _) _)
def awa(p:fM)(h:p.aG)(t:aY)(c:t.aG p)(b:Rat)(a:aM 81 b):cU 69 [hC p,.agg (jY t p.n b)] cY:=by refine dg (.f2 (q2 p h.n) (.agg (DG t _ b))) (eM Tryz.f69 (h:=?_));simp only[go_sem,hC,jY];refine bq (Qd p h t c b a) bH ?_;simp only[go_sem];exact bO bH rfl (.bool _)
def o6(l:List aW):au:=l.map V.str
def iM(l:List aW):V:=.row (af l) (o6 l)
def q3:∀l,ct (o6 l)
 |[]=>.nil
 |s::l=>.cons (.str s) (q3 l)
def vp{l:List aW}{i:Nat}{s:aW}(h:l[i]? =some s):dw (o6 l) i=some (.str s):=by rw[iu,o6,hY,h];rfl
@[go_sem]theorem az4(l:List aW):di (iM l)=some (.val (aj (af l))):=rfl
def uZ{l:List aW}{i:Int}{k:IntKind}(h:0<=i/\i<af l):dO none 1 [iM l,.int k i]=some (.val (.dY (o6 l) (i.toNat*1))):=nx h
def arx(s:aW)(a:af s<=500):cU 71 [.str s] (.bool (!(numOf s).isSome)):=by refine dg (.f1 .ss) (eM Tryz.f71 (h:=?_));simp only[go_sem];refine bq (vw s a) bH ?_;simp only[go_sem];exact bO bH rfl (.bool _)
def sw:List aW->Nat->Int
 |[],_=> -1
 |s::l,i=>if(numOf s).isSome then sw l (i+1)else i
def Rs:∀(l:List aW) (m i:Nat) (s:aW),(∀j,j<m->∀u,l[j]? =some u->(numOf u).isSome=true)->l[m]? =some s->(numOf s).isSome=false->sw l i=((i+m:Nat):Int)
 |[],_,_,_,_,h,_=>by cases h
 |u::l,0,i,s,_,h,e=>by cases h;rw[sw,e,ao ai];rfl
 |u::l,m+1,i,s,a,h,e=>by rw[sw,a 0 aa u rfl,ay rfl,Rs l m (i+1) s (λj c v b=>a (j+1) aa v b) h e,(aa:i+1+m=i+(m+1))]
def IF:∀(l:List aW) (i:Nat),(∀j,j<af l->∀u,l[j]? =some u->(numOf u).isSome=true)->sw l i= -1
 |[],_,_=>rfl
 |u::l,i,a=>by rw[sw,a 0 (mA _) u rfl,ay rfl,IF l (i+1) λj h v b=>a (j+1) (Nat.succ_lt_succ h) v b]
def amb(l:List aW)(hl:af l<=1000)(p:∀s∈l,af s<=500):cU 119 [iM l,.func 71 [] []] (aj (sw l 0)):=by
 refine dg (.f2 (.row _ (q3 l)) (.func _ .nil .nil)) (eM Tryz.f119 (h:=?_));have k:∀x:V,oL [.func 71 [] [],x]=some (.fn 71,[x]):=λ_=>rfl
 simp only[go_sem];refine each (af l) [0,1,6,7] 5 (λm _ _=>∀j,j<m->∀u,l[j]? =some u->(numOf u).isSome=true) ?_ ?_ aa ai (aJ 5) (λ_ _ _ _ _ _ h=>h) (λ_ h=>(nP _ h).elim) ?_ ?_
 iterate 2 simp only[go_sem]
 .intro m f i o a hh hi b;simp only[go_sem]at a;obtain⟨s,q,c⟩:=gw o;have g:=hh.gt e5;simp(disch:=omega)only[go_sem,a,hi,uZ,vp c,k];refine bq (arx s (p s q)) g ?_;cases e:(numOf s).isSome
  .simp only[go_sem,a,hi];exact bO g (by rw[Rs l m 0 s b c e,eW]) (.int _ _)
  .simp only[go_sem,a,hi];refine⟨hh,λj r u d=>?_⟩;by_cases n:j=m
   .subst n;rw[c]at d;cases d;exact e
   .exact b j aa u d
 .intro f i a hh b;simp only[go_sem];exact bO (hh.gt e5) (by rw[IF l 0 b]) (.int _ _)
def XN(l:List aW)(hl:af l<=1000)(a:∀s∈l,af s<=500):cU 70 [iM l,.func 71 [] []] (.bool (!decide (sw l 0<0))):=by refine dg (.f2 (.row _ (q3 l)) (.func _ .nil .nil)) (eM Tryz.f70 (h:=?_));simp only[go_sem];refine bq (amb l hl a) bH ?_;simp only[go_sem];exact bO bH rfl (.bool _)
def nE(q:Rat)(s:dF):Bool:=(s.hl&&decide (e6 (q-s.lo)<0))||(s.hh&&decide (0<e6 (q-s.hi)))
def vb(t:aY)(x:Nat->Rat):Nat->Nat->Nat
 |0,n=>n
 |k+1,n=>if n<t.s then vb t x k (if e6 (x (t.v n)-t.a n)<=0 then 2*n+1 else 2*n+2)else n
def m3(a:List aW)(i:Nat):Rat:=rv (a.getD i [])
def rj(p:fM)(t:aY)(a:List aW):V:=
 if¬sw a 0<0 then .aH [aj 0,aj 1]
 else if(af a)≠p.n then .aH [aj 0,aj 4]
 else if∃i,i<p.n/\nE (m3 a i) ((t.bs 0).getD i fc)=true then .aH [aj 0,aj 8]
 else .aH [aj (vb t (m3 a) t.s 0:Nat),aj 0]
def Eh:∀ {a:au}{n k:Nat}{v:V}{l:au},cW (eH a n) (k+1)=some (v::l)->dw a n=some v
 |[],0,_,_,_,h=>by cases h
 |[],_+1,_,_,_,h=>by cases h
 |c::a,0,k,v,l,h=>by
  rw[dQ,Sd]at h;cases e:cW a k with
  |none=>rw[e]at h;cases h
  |some r=>rw[e]at h;cases h;rfl
 |c::a,n+1,k,v,l,h=>by rw[RY]at h;rw[R5];exact Eh h
theorem aqk(p:fM)(h:p.aG)(t:aY)(D:t.aG p)(b:Rat)(hb:aM 81 b)(f:List aW)(hl:af f<=1000)(H:∀Z∈f,af Z<=30):cU 27 [hC p,.agg (jY t p.n b),iM f] (rj p t f):=by
 have hn:=h.n;have cb:=D.s;refine dg (.f3 (q2 p h.n) (.agg (DG t _ b)) (.row _ (q3 f))) (eM Tryz.f27 (h:=?_));have a5:∀a b:Int,bA (.aH [aj a,aj b]):=λa b=>.aH (.f2 .ii .ii)
 have F:bA (rj p t f):=by unfold rj;repeat' split
                          all_goals exact a5 _ _
 have ap:di (fl p.n)=some (.val (aj p.n)):=rfl;simp only[go_sem,hC,jY];refine bq (awa p h t D b hb) bH ?_;simp only[go_sem];refine bq (XN f hl λZ h=>by have:=H Z h;omega) bH ?_;by_cases K:sw f 0<0
 .by_cases h2:af f=p.n
  .have V:((af f:Int)=(p.n:Int))=True:=eq_true aa;simp only[go_sem,K,ap,V];have lb:af (t.bs 0)=p.n:=D.len 0 aa;have y:af (t.er 0)=p.n:=by rw[aY.er,gD];exact lb
   have W:∀B:ah,eC 7 ((dV.push (an [fl p.n,aj p.n,fq p.obj,dc p.n p.is,dc p.n p.es] 0)).push (an (jY t p.n b) 0)) B->GT B/\B.get 6=an (jY t p.n b) 0:=λB hh=>⟨hh.gt bH,by rw[hh.1 6 ai];simp only[go_sem]⟩
   have a7:(∃i,i<p.n/\nE (m3 f i) ((t.bs 0).getD i fc)=true)->rj p t f=.aH [aj 0,aj 8]:=λS=>by unfold rj;rw[ao (by simpa using K),ao (by simpa using h2),ay S]
   refine each p.n [2,3,4,30,31] 7 (λm _ _=>∀j,j<m->nE (m3 f j) ((t.bs 0).getD j fc)=false) ?_ ?_ aa ai (aJ 7) (λ_ _ _ _ _ _ h=>h) (λ_ h=>(nP _ h).elim) ?_ ?_
   iterate 2 simp only[go_sem,y]
   .intro m aw B T o hh hi S;simp only[go_sem]at o;obtain⟨g,a1⟩:=W B hh;have h7:=hh.2;obtain⟨x,bc,hx⟩:=gw (aa:m<af (t.bs 0));obtain⟨u,I,E⟩:=gw (aa:m<af f);have hr:=jO (f:=bZ) mm (show(t.er 0)[m]? =some (gB x) by rw[aY.er,hY,hx];rfl);have bb:(t.bs 0).getD m fc=x:=by rw[bT,hx];rfl
    have Y:m3 f m=rv u:=by unfold m3;rw[bT,E];rfl
    have U:=D.q 0 aa x bc;have c1:=tA u (aO x.lo) (by have:=H u I;omega) (qD U.1 ai) (a:=121) (b:=81) (BW (L:=30) (H u I)) (by rw[eT];exact U.1) ai;have O:=tA u (aO x.hi) (by have:=H u I;omega) (qD U.2 ai) (a:=121) (b:=81) (BW (L:=30) (H u I)) (by rw[eT];exact U.2) ai;rw[eT]at c1 O;have a':nE (m3 f m) ((t.bs 0).getD m fc)=nE (rv u) x:=by rw[bb,Y]
    have N:nE (rv u) x=true->rj p t f=.aH [aj 0,aj 8]:=λe=>a7 ⟨m,T,by rw[a'];exact e⟩
    have R:nE (rv u) x=false->∀j,j<m+1->nE (m3 f j) ((t.bs 0).getD j fc)=false:=λe j hj=>by grind
    obtain⟨lo,hi',l,w⟩:=x;simp(disch:=omega)only[go_sem,o,hi,iq,hr,y,bZ,gB];cases l
    .cases w
     .simp only[go_sem,o,hi,y,jk,if_false];exact⟨kb,R rfl⟩
     .simp(disch:=omega)only[go_sem,o,hi,y,jk,if_false,uc,uZ,vp E];refine bq O bH ?_;by_cases e:0<e6 (rv u-hi')
      .simp only[go_sem,o,hi,y,e];exact bO bH (by rw[N (by unfold nE;simp[e])]) F
      .simp only[go_sem,o,hi,y,e];exact⟨kb,R (by unfold nE;simp[e])⟩
    .simp(disch:=omega)only[go_sem,o,hi,y,jk,if_false,uc,uZ,vp E];refine bq c1 bH ?_;by_cases A:e6 (rv u-lo)<0
     .cases w
      .simp only[go_sem,o,hi,y,jk,if_false,A];exact bO bH (by rw[N (by unfold nE;simp[A])]) F
      .simp(disch:=omega)only[go_sem,o,hi,y,jk,if_false,uc,uZ,vp E,A];refine bq O bH ?_;simp only[go_sem,o,hi,y];exact bO bH (by rw[N (by unfold nE;simp[A])]) F
     .cases w
      .simp only[go_sem,o,hi,y,jk,if_false,A];exact⟨kb,R (by unfold nE;simp[A])⟩
      .simp(disch:=omega)only[go_sem,o,hi,y,jk,if_false,uc,uZ,vp E,A];refine bq O bH ?_;by_cases e:0<e6 (rv u-hi')
       .simp only[go_sem,o,hi,y,e];exact bO bH (by rw[N (by unfold nE;simp[e])]) F
       .simp only[go_sem,o,hi,y,e];exact⟨kb,R (by unfold nE;simp[e,A])⟩
   .intro aw B o hh S;simp only[go_sem]at o;obtain⟨g,a1⟩:=W B hh;simp only[go_sem,o];have ca:¬∃i,i<p.n/\nE (m3 f i) ((t.bs 0).getD i fc)=true:=λ⟨i,hi,e⟩=>by rw[S i hi]at e;cases e
    have a8:rj p t f=.aH [aj (vb t (m3 f) t.s 0:Nat),aj 0]:=by unfold rj;grind
    refine b8 (λr L M=>∃d k,r=2*t.s+1-d/\d<=2*t.s/\t.s<=d+k/\vb t (m3 f) k d=vb t (m3 f) t.s 0/\rd 2 L=iM f/\rd 4 L=.ptr 6 0/\eC 7 B M/\rd 12 L=aj d) (2*t.s+1) ⟨0,t.s,rfl,cj _,aa,rfl,?_,?_,.refl hh.2,?_⟩ ?_
    iterate 2 simp only[go_sem,o]
    .simp only[go_sem];rfl
    rintro r L M ⟨d,k,rfl,b2,b',G,P,Q,am,ae⟩;obtain⟨g2,al⟩:=W M (hh.trans am);have h7:=am.2;have T:d<2*t.s+1:=aa;have a9:t.jf[d]? =some (t.nd d):=by rw[aY.jf,hY,p4 T];rfl
    have J:=jO (x6 p.n) a9;have b0:d<t.jf.length:=by rw[wG];exact T
    by_cases C:d<t.s
    .rw[show t.nd d=.split (t.v d) (t.a d) (2*d+1) (2*d+2)from ay C]at J;have X:=Eh J;obtain⟨u,I,E⟩:=gw (show t.v d<af f by have:=D.v d C;omega);have Y:m3 f (t.v d)=rv u:=by unfold m3;rw[bT,E];rfl
     have ac:=tA u (aO (t.a d)) (by have:=H u I;omega) (qD (D.CT d C) ai) (a:=121) (b:=81) (BW (L:=30) (H u I)) (by rw[eT];exact D.CT d C) ai;rw[eT]at ac;have cd:=D.v d C;have bo:=ek (aa:6<M.ag);obtain⟨k,rfl⟩:∃k',k=k'+1:=⟨k-1,aa⟩;rw[vb,ay C,Y]at G;simp(disch:=omega)only[go_sem,P,Q,ae,al,jY,iq,J,X,eS,bo,uZ,vp E];refine bq ac bH ?_;by_cases e:0<e6 (rv u-t.a d)
     .rw[ao aa]at G;simp only[go_sem,e];refine⟨2*t.s+1-(2*d+2),aa,2*d+2,k,rfl,aa,aa,G,?_,?_,kb,?_⟩
      iterate 3 simp only[go_sem,P,Q]
     .rw[ay aa]at G;simp only[go_sem,e];refine⟨2*t.s+1-(2*d+1),aa,2*d+1,k,rfl,aa,aa,G,?_,?_,kb,?_⟩
      iterate 3 simp only[go_sem,P,Q]
    .have a6:vb t (m3 f) k d=d:=by
      cases k with
      |zero=>rfl
      |succ k=>rw[vb,ao C]
     rw[a6]at G;rw[show t.nd d=.leaf (t.gh d)from ao C]at J;obtain⟨z,cs,hz,be⟩:∃z cs,eS p.n (.leaf (t.gh d))=aj z::cs/\z≠1:=by
      rcases t.gh d with _|q|⟨c,e⟩
      .exact⟨_,_,rfl,ai⟩
      .exact⟨_,_,rfl,ai⟩
      .cases c
       .exact⟨_,_,rfl,ai⟩
       .exact⟨_,_,rfl,ai⟩
     rw[hz]at J;have X:=Eh J;have A:(z=1)=False:=eq_false be;simp(disch:=omega)only[go_sem,P,Q,ae,al,jY,iq,X,A];exact bO g2 (by rw[a8,G]) F
  .have V:((af f:Int)=(p.n:Int))=False:=eq_false aa;simp only[go_sem,K,ap,V];exact bO bH (by unfold rj;grind) F
 .simp only[go_sem,K];exact bO bH (by unfold rj;rw[ay K]) F
def nF{args:au}(c:ct args)(h:dm a args (ah.zero 5) λd b=>∃v,bS b (ah.zero b.ag) d v/\bA v/\v=l):bm a args l:=rB (R:=λv=>v=l) c h
def akF{v:V}(h:v=l)(a:bA l):∃u,bS b (ah.zero b.ag) v u/\bA u/\u=l:=⟨v,.same v,by rw[h];exact a,h⟩
def o4{b:Fr}{v:V}(d:a∉g)(h:gG g b j):gG g (put b (some a) v) j:=rG.2 λt c=>by rw[zO (by rintro rfl;exact d c)];exact rG.1 h t c
variable{O:Nat}{J:aS}
def ajm{l:Nat}{T:List dW}{R:b5}(g:Nat)(L:av)(B:Nat)(E:Nat->ah->Prop)
 (hi:rd a j=aj 0) (hl:g<1000000000) (w:a∉L/\m∉L/\D∉L/\a≠m/\a≠D) (v:B<=b.ag) (t:E 0 b)
 (N:∀(c:Nat) f e,gG L f j->eC B b e->rd a f=aj c->∀K:cm,(∀i,gG L i j->rd a i=aj c->rd d i=.bool (decide (c<g))->K i e)->k5 e9 5 T K f e)
 (step:∀(c:Nat) f e,c<g->gG L f j->eC B b e->rd a f=aj c->E c e->bK J (hD l (yL L B a c j b (λ_=>E (c+1)) (hD O R))) f e)
 (u:∀f e,gG L f j->eC B b e->E g e->R .norm f e):
 bK (.loop (.seq (.seq (.c7 T) (.cond (rd d) .skip (.exit O))) (.seq (.block l J) (.c7 [ex m (mv (rd a)),ex D (bi .add (rd m) (kc (aj 1))),ex a (bJ (rd D))])))) (hD O R) j b:=by
 obtain⟨y,z,A,P,Q⟩:=w;refine b8 (λr f e=>∃c,r=g-c/\c<=g/\gG L f j/\eC B b e/\rd a f=aj c/\E c e) g ⟨0,rfl,cj _,rG.2 λ_ _=>rfl,.refl v,hi,t⟩ ?_;rintro r f e ⟨c,rfl,S,C,hh,F,q⟩;simp only[go_sem];refine N c f e C hh F _ λi s G k=>?_
 by_cases h:c<g
 .rw[b3 h]at k;simp only[go_sem,k];refine Go.ax.wp_mono J (λx n o=>CW (λx n o p=>?_) x n o) (step c i e h s hh G q);cases x with
  |norm=>
   obtain⟨I,l,bX,M⟩:=p;have H:aE .i64 ((c:Int)+1)=((c+1:Nat):Int):=by rw[aK _ aa];omega
   show bK (.c7 _) _ n o;simp only[go_sem,bX,H];exact⟨g-(c+1),aa,c+1,rfl,h,o4 y (o4 A (o4 z I)),l,by simp only[go_sem],M⟩
  |ret=>exact p
  |exit D=>exact p
 .rw[bP h]at k;have D:c=g:=aa;subst D;simp only[go_sem,k];exact u _ _ s hh q
def z7(l:List Rat):V:=bE bk l
theorem wP(q:Rat):af (bk q)=4:=rfl
def qC(l:List Rat)(m:Nat):Nat->Nat->au
 |0,_=>[]
 |k+1,j=>.str (if j<m then aO (l.getD j 0)else [])::qC l m k (j+1)
def Kt(l:List Rat)(m:Nat):∀k j,af (qC l m k j)=k
 |0,_=>rfl
 |k+1,j=>by rw[qC,dZ,Kt]
def Fl(l:List Rat)(m:Nat):∀k j i,(qC l m k j)[i]? =if i<k then some (.str (if j+i<m then aO (l.getD (j+i) 0)else []))else none
 |0,_,_=>by rw[qC,ao aa];rfl
 |k+1,j,0=>by rw[ay (mA k)];rfl
 |k+1,j,i+1=>by rw[qC,List.getElem?_cons_succ,Fl l m k (j+1) i,(aa:j+1+i=j+(i+1))];simp only[Nat.add_lt_add_iff_right]
def avN(l:List Rat)(m k:Nat)(h:m<k):(qC l m k 0).set m (.str (aO (l.getD m 0)))=qC l (m+1) k 0:=by
 refine oC λi=>?_
 rw[rS,Kt,Fl,Fl];simp only[eW];by_cases a:m=i
 .subst a;rw[ay rfl,ay h,ay h,ay aa]
 .rw[ao a,show(if i<m then aO (l.getD i 0)else [])=if i<m+1 then aO (l.getD i 0)else [] by
   by_cases b:i<m
   .rw[ay b,ay aa]
   .rw[ao b,ao aa]]
def Uq(l:List Rat):∀k j,rep [V.str []] k=qC l 0 k j
 |0,_=>rfl
 |k+1,j=>by rw[BP,Uq l k (j+1),qC,ao (nP _)];rfl
theorem avM(l:List Rat):qC l (af l) (af l) 0=o6 (l.map aO):=by
 refine oC λi=>?_
 rw[Fl,o6,hY,hY,eW]
 grind
def avr(l:List Rat)(hl:af l<=1000)(o:∀q∈l,aM 100 q):cU 24 [z7 l] (iM (l.map aO)):=by
 refine dg (.f1 (hH mE l)) (eM Tryz.f24 (h:=?_));have r:(0:Int)<=(af l:Int)/\(af l:Int)*(16:Nat)<=1099511627776/\(af l:Int)<=1099511627776:=aa;simp only[go_sem,z7,iG r];rw[Uq l _ 0];refine ajm (af l) [0,3] 5 (λm H=>H.get 5=an (qC l m (af l) 0) 0/\6<=H.ag) ?_ aa ai (s9 5) ⟨by simp only[go_sem],aJ 6⟩ ?_ ?_ ?_
 .simp only[go_sem]
 .intro m f d b _ hi K j;simp only[go_sem]at b;simp only[go_sem,b,hi,s3];refine j _ ?_ ?_ ?_
  iterate 3 simp only[go_sem,b,hi]
 .intro m f d e b hh hi ⟨c,h⟩;simp only[go_sem]at b;obtain⟨a,n,i⟩:=gw e;have p:=jO wP i;have s:dj [V.str (aO a)] (qC l m (af l) 0) m=some _:=fE (by rw[Kt];exact e);have k:l.getD m 0=a:=by rw[bT,i];rfl
  simp(disch:=omega)only[go_sem,b,hi,iq,p];refine use (z2 a (o a n) ai) ?_;simp(disch:=omega)only[go_sem,b,hi,cH,c,s];rw[<-k,avN l m _ e];exact⟨kb,rfl,h⟩
 .intro f d b hh ⟨c,h⟩;simp only[go_sem]at b;simp only[go_sem,b];have g:GT d:=hh.gt bH;rw[avM]at c;cases l with
  |nil=>exact⟨g,_,.fQ _ _ _,.row 0 .nil,rfl⟩
  |cons q l=>
   refine⟨g,_,.row (m:=af (q::l)) ?_ (by rw[dZ];omega) ?_ (dn.refl (o6 ((q::l).map aO))),.row _ (q3 _),by rw[iM,gD]⟩
   .rw[fO c,dQ];exact je (by simp[o6])
   .rw[ah.sq,lF,ao aa,ao aa,ao aa]
def oo(L:List au):au:=c3 id L
def JY:∀(L:List au) (i:Nat) (x:au),(∀r∈L,af r=a)->af x=a->i<L.length->dj x (oo L) (i*a)=some (oo (L.set i x))
 |[],_,_,_,_,h=>(nP _ h).elim
 |r::L,0,x,c,f,_=>by have d:=c r aI;rw[j4,mH,ay (by show 0+af x<=af (r++oo L);rw[bw];omega)];show some ([]++x++(r++oo L).drop (0+af x))=some (x++oo L);rw[eW,f,<-d,List.drop_left];rfl
 |r::L,i+1,x,c,f,hi=>by
  have d:=c r aI;have b:=JY L i x (λs j=>c s (by simp[j])) f (Nat.lt_of_succ_lt_succ hi);rw[mH]at b⊢;by_cases g:i*a+af x<=af (oo L)
  .rw[ay g]at b;have e:(i+1)*a=af r+i*a:=by rw[qR,d];omega
   rw[ay (by show(i+1)*a+af x<=af (r++oo L);rw[bw,e];omega)];show some ((r++oo L).take ((i+1)*a)++x++(r++oo L).drop ((i+1)*a+af x))=some (r++oo (L.set i x));rw[e,List.take_length_add_append,ng,List.drop_length_add_append,<-Option.some.inj b];simp[gX]
  .rw[ao g]at b;cases b
def Tc{k:Nat}(h:k<=4):aM 3 (oE k (4:Nat)):=by rw[Rat.divInt_ofNat];obtain⟨a,b⟩:=mk_le (k:Int) (m:=4) ai;exact⟨aa,aa⟩
def UL(k:Nat):oE (k:Int) (4:Nat)=(k:Rat)/4:=by rw[Rat.divInt_eq_div];rfl
def vG(s:dF)(q:Rat):Prop:=s.hl=true->s.hh=true->∀M V,bF M V s.lo->bF M V s.hi->bF (M*4) (V*4) q
theorem V_(l:List Int)(hl:af l<=400)(D:kY l)(s:dF)(a b:Nat)(S:a+b<=1000)(c:aM a s.lo)(e:aM b s.hi)(z:s.hl=true->s.hh=true->s.lo<s.hi):p9 l 77 [.agg (gL s)] λv=>∃q:Rat,aM (a+b+7) q/\tr q s/\vG s q/\v=bR q:=by
 refine tZ (.f1 (.agg (Qn s))) λi hi=>eM Tryz.f77 (h:=?_)
 obtain⟨lo,hi',m,d⟩:=s;change aM a lo at c;change aM b hi' at e;change m=true->d=true->lo<hi' at z;simp only[go_sem,gL,bk,gv,fS];refine jj (oX l hl D 3 ai) ai hi ?_ ?_
 .simp only[go_sem,q7,fX]
 rintro _ C ⟨k,I,rfl⟩ p;simp(disch:=omega)only[go_sem,aK];refine use (tG _ aa) ?_;simp only[go_sem];refine use (tG _ aa) ?_;simp only[go_sem];refine use (zi (1+(k:Int)) 4 aa (wT aa) (wT aa)) ?_;have A:oE (1+(k:Int)) 4=((1+k:Nat):Rat)/4:=by rw[<-UL];congr 1
 have f:aM 3 (oE (1+(k:Int)) 4):=by have h:=Tc (k:=1+k) aa;rwa[(aa:((1+k:Nat):Int)=1+(k:Int))]at h
 have K:0<oE (1+(k:Int)) 4/\oE (1+(k:Int)) 4<1:=by rw[A];have:k=0\/k=1\/k=2:=aa;rcases this with rfl|rfl|rfl<;>decide+kernel
 have L:aM 3 (1-oE (1+(k:Int)) 4):=by have h:=Tc (k:=3-k) aa;rwa[UL,show((3-k:Nat):Rat)/4=1-((1+k:Nat):Rat)/4 by have:k=0\/k=1\/k=2:=aa;rcases this with rfl|rfl|rfl<;>decide+kernel,<-A]at h
 have N:∀M V x y,bF M V x->bF M V y->bF (M*4) (V*4) (x+oE (1+(k:Int)) 4*(y-x)):=λM V x y O Q=>by rw[A];exact ak4 O Q I
 generalize oE (1+(k:Int)) 4=w at*
 have n:∀(q:Rat) (r:ah) (o:dU) (j:Nat),j<=af l->o=an (dN l j) 0->aM (a+b+7) q->tr q ⟨lo,hi',m,d⟩->vG ⟨lo,hi',m,d⟩ q->∃B v,B<=af l/\o=an (dN l B) 0/\bS r (ah.one 5 r.ag (dN l B)) (bR q) v/\bA v/\∃q:Rat,aM (a+b+7) q/\tr q ⟨lo,hi',m,d⟩/\vG ⟨lo,hi',m,d⟩ q/\v=bR q:=λq r o j H F t u E=>⟨j,_,H,F,.same _,ij _,q,t,u,E,rfl⟩
 have g:∀ {P:Prop},false=true->P:=λh=>by cases h
 cases m
 .cases d
  .simp only[go_sem,fX,nB,nt,nD,oI,l6,dQ,oc,mU];refine jj (SE l hl D) ai p ?_ ?_
   .simp only[go_sem,fX]
   rintro _ R ⟨q,J,rfl⟩ G;simp only[go_sem,fX,nB,nt,nD,oI,l6,dQ,oc,mU];exact n q _ _ R G rfl (J.mono aa) ⟨g,g⟩ g
  .simp only[go_sem,fX,nB,nt,nD,oI,l6,dQ,oc,mU];refine use (BS hi' w e f aa) ?_;simp only[go_sem,fX,nB,nt,nD,oI,l6,dQ,oc,mU];exact n _ _ _ C p rfl ((e.sub f).mono aa) ⟨g,λ_=>by show hi'-w<hi';grind⟩ g
 .cases d
  .simp only[go_sem,fX,nB,nt,nD,oI,l6,dQ,oc,mU];refine use (yb lo w c f aa) ?_;simp only[go_sem,fX,nB,nt,nD,oI,l6,dQ,oc,mU];exact n _ _ _ C p rfl ((c.add f).mono aa) ⟨λ_=>by show lo<lo+w;grind,g⟩ λ_=>g
  .have z:=z rfl rfl;simp only[go_sem,fX,nB,nt,nD,oI,l6,dQ,oc,mU];refine use (BS hi' lo e c aa) ?_;simp only[go_sem,fX,nB,nt,nD,oI,l6,dQ,oc,mU];refine use (sF w (hi'-lo) f (e.sub c) aa) ?_;simp only[go_sem,fX,nB,nt,nD,oI,l6,dQ,oc,mU];refine use (yb lo (w*(hi'-lo)) c (f.mul (e.sub c)) aa) ?_;simp only[go_sem,fX,nB,nt,nD,oI,l6,dQ,oc,mU];have T:0<w*(hi'-lo):=Rat.mul_pos K.1 (by show 0<hi'-lo;grind);have U:0<(1-w)*(hi'-lo):=Rat.mul_pos b4 (by show 0<hi'-lo;grind);refine n _ _ _ C p rfl ?_ ⟨λ_=>by show lo<lo+w*(hi'-lo);grind,λ_=>by show lo+w*(hi'-lo)<hi';grind⟩ λ_ _ M V t u=>N M V lo hi' t u
   have:=(L.mul c).add (f.mul e);rw[show(1-w)*lo+w*hi'=lo+w*(hi'-lo) by grind]at this;exact this.mono aa
def B7{n:Nat}{e i:au}{v:V}(h:dB b a d c)(t:dj i c m=some e)(q:bM v=true)(o:cellsOf v=i)(r:bt (c_ i) n=true)(s:dI i=true):qB n [.ptr a m,v] b=some (V.undef,ah.wr b a d e):=by obtain⟨f,k,_⟩:=h.bV;obtain⟨g,p⟩:∃g,d=g+1:=⟨d-1,by have:=h.ne;omega⟩;have l:=h.row;show aX (and (bM v) (bt (c_ (cellsOf v)) n)) (aq (b.fe a m (cellsOf v)) λb=>some (V.undef,b))=_;rw[q,o,r];unfold ah.fe;rw[l];show aX true (aq (aX (dI i) (aq (dj i c m) λe=>Nat.rec (motive:=λ_=>Option ah) (some (b.set a (an e 0))) (λ_ _=>dU.casesOn (motive:=λ_=>Option ah) (b.get d) aN (λ_ _=>aN) (λj _=>aX (bt j a) (some ((b.set a (an e d)).set d (.bV a a)))) (λ_=>aN)) d)) λb=>some (V.undef,b))=_;rw[t,s];subst p;show aX true (aq (aX true (dU.casesOn (motive:=λ_=>Option ah) (b.get (g+1)) aN (λ_ _=>aN) (λj _=>aX (bt j a) (some ((b.set a (an e (g+1))).set (g+1) (.bV a a)))) (λ_=>aN))) λb=>some (V.undef,b))=_;rw[k];show aX true (aq (aX true (aX (bt a a) (some ((b.set a (an e (g+1))).set (g+1) (.bV a a))))) λb=>some (V.undef,b))=_;rw[uA];rfl
def BR{g:f->au}(p:∀a,af (g a)=d)(j:au)(o:Nat):∀(l:List f) (i:Nat) (a b:f),l[i]? =some a->dj j (g a) o=some (g b)->dj j (c3 g l) (i*d+o)=some (c3 g (l.set i b))
 |[],_,_,_,h,_=>by cases h
 |c::l,0,a,b,h,e=>by
  cases h;rw[mH]at e⊢;split at e
  .rename_i n;rw[j4,eW,ay (by show o+af j<=af (g c++c3 g l);rw[bw];omega)];show some ((g c++c3 g l).take o++j++(g c++c3 g l).drop (o+af j))=some (g b++c3 g l);rw[<-Option.some.inj e,Am aa,List.drop_append_of_le_length n];simp[gX]
  .cases e
 |c::l,i+1,a,b,h,e=>by
  have k:=BR p j o l i a b h e;rw[mH]at k⊢;have q:=p c;have m:(i+1)*d+o=af (g c)+(i*d+o):=by rw[qR,q];omega
  split at k
  .rename_i n;rw[ay (by show(i+1)*d+o+af j<=af (g c++c3 g l);rw[bw,m];omega)];show some ((g c++c3 g l).take ((i+1)*d+o)++j++(g c++c3 g l).drop ((i+1)*d+o+af j))=some (g c++c3 g (l.set i b));rw[m,List.take_length_add_append,ng,List.drop_length_add_append,<-Option.some.inj k];simp[gX]
  .cases k
def P7{bytes:Nat}(f:b.get d=an [] 0)(k:0<m)(g:af c=m*a)(h:m<=1073741824/\bytes<=1024)
 (i:∀e,dB e b.ag (b.ag+1) c->(∀y,y<b.ag->e.get y=b.get y)->e.ag=b.ag+2->s (put j x (.slice b.ag 0 m (.grown a))) e):gW x s j (fU a bytes [.slice d 0 0 (.known 0),.row m c] b):=by
 refine HY f k g h (i _ ⟨?_,⟨b.ag,?_,aJ _⟩,Nat.succ_ne_zero _⟩ (λy l=>?_) rfl)
 .rw[ah.bl,ao (by show¬(b.ag+1=b.ag);omega),ah.bl,ay rfl]
 .rw[ah.bl,ay (show(b.push (dU.cells c (b.ag+1))).ag=b.ag+1 from rfl)]
 .rw[ah.bl,ao (by show¬(b.ag+1=y);omega),ah.bl,ao aa]
def R4{c:f->au}(h:∀a,af (c a)=d)(i:0<d){e:List f}(j:af e=D)(g:dB b m (m+1) (c3 c e))(o:m+1<b.ag):bS b (ah.zero b.ag) (.slice m 0 D (.grown d)) (bE c e):=by subst j;obtain⟨r,k,l⟩:=g.bV;exact uV h i (.cells g.row k l g.ne (lN c h e) aa aa) (dn.refl _) (λy n p=>ah.hL _ _) (lN c h e)
def zm(l:List dF)(i:Nat)(q:Rat):List dF×List dF:=(l.set i { l.getD i fc with hi:=q,hh:=true },l.set i { l.getD i fc with lo:=q,hl:=true })
set_option maxHeartbeats 1000000 in
theorem DV(l:List dF)(hl:0<af l/\af l<=1000)(i:Nat)(hi:i<af l)(q lo hi':Rat)(a b:Bool)(u:l[i]? =some ⟨lo,hi',a,b⟩)(F:Fr)(H:ah)(j:rd 0 F=iH l)(o:rd 1 F=aj i)(p:rd 5 F=.ptr 5 0)(N:H.get 5=an (bk q) 0)(k:H.ag=7):
 bK (pc 45 3) (gC (rE qc) λR m=>∃v,bS m (ah.zero m.ag) R v/\bA v/\v=.aH [iH (l.set i ⟨lo,q,a,true⟩),iH (l.set i ⟨q,hi',true,b⟩),cY]) F H:=by
 have I:=lN gL pO l;have t:(0:Int)<=(i:Int)/\(i:Int)<((af l:Nat):Int):=aa;change rd 0 F=bE gL l at j;unfold bE at j;simp only[go_sem,ak 45 qc 3,ak 45 qc 2,ak 45 qc 1,ak 45 qc 0,jm qc,iH,j,k];refine P7 (by simp only[go_sem,k]) hl.1 I ⟨aa,ai⟩ λm A w f=>?_
 simp only[go_sem,k]at A w f;simp only[go_sem,j,f,k];refine P7 (by simp only[go_sem,f]) hl.1 I ⟨aa,ai⟩ λd C x M=>?_
 simp only[go_sem,f]at C x M;have Is:d.get 5=an (bk q) 0:=by rw[x 5 ai,ao ai,w 5 ai,ao ai];exact N
 have B:=A.keep (H':=d) b4 b4;have J:=B7 (v:=bR q) B (BR pO (bk q) 4 l i _ ⟨lo,q,a,b⟩ u rfl) rfl rfl rfl (n:=4) rfl;have r:∀ {s:dF},(l.set i s)[i]? =some s:=λ{_}=>by rw[List.getElem?_set_self hi]
 have E:=B.written (c3 gL (l.set i ⟨lo,q,a,b⟩));have K:=B7 (v:=cY) E (BR pO [cY] 9 _ i _ ⟨lo,q,a,true⟩ r rfl) rfl rfl rfl (n:=1) rfl;simp only[bk]at Is;simp only[bR,bk]at J;simp only[List.set_set]at K;simp only[go_sem,o,p,Is,cH t,J,K];obtain⟨c,g⟩:∃c,c=ah.wr (ah.wr d 8 9 (c3 gL (l.set i ⟨lo,q,a,b⟩))) 8 9 (c3 gL (l.set i ⟨lo,q,a,true⟩)):=⟨_,rfl⟩;have bX:∀y,y≠8->y≠9->c.get y=d.get y:=λy a b=>by rw[g,qi a b,qi a b]
 have O:dB c 8 9 (c3 gL (l.set i ⟨lo,q,a,true⟩)):=by rw[g];exact E.written _
 have D:=C.keep (bX 11 ai ai) (bX 12 ai ai);have It:=(bX 5 ai ai).trans Is;rw[<-g];have n:=B7 (v:=bR q) D (BR pO (bk q) 0 l i _ ⟨q,hi',a,b⟩ u rfl) rfl rfl rfl (n:=4) rfl;have G:=D.written (c3 gL (l.set i ⟨q,hi',a,b⟩));have L:=B7 (v:=cY) G (BR pO [cY] 8 _ i _ ⟨q,hi',true,b⟩ r rfl) rfl rfl rfl (n:=1) rfl;simp only[bR,bk]at n;simp only[List.set_set,dG]at n L;simp only[go_sem,o,p,It,cH t,f,dG,n,L];obtain⟨e,h⟩:∃e,e=ah.wr (ah.wr c 11 12 (c3 gL (l.set i ⟨q,hi',a,b⟩))) 11 12 (c3 gL (l.set i ⟨q,hi',true,b⟩)):=⟨_,rfl⟩;have z:∀y,y≠11->y≠12->e.get y=c.get y:=λy a b=>by rw[h,qi a b,qi a b]
 have Q:dB e 11 12 (c3 gL (l.set i ⟨q,hi',true,b⟩)):=by rw[h];exact G.written _
 have P:=O.keep (z 8 ai ai) (z 9 ai ai);have S:e.ag=13:=by rw[h,<-M,<-show c.ag=d.ag by rw[g];rfl];rfl
 rw[<-h];exact⟨_,.aH (.f3 (R4 pO ai (iO ..) P aa) (R4 pO ai (iO ..) Q aa) .mm),.aH (.f3 (v_ _) (v_ _) .bb),rfl⟩
def atb(l:List dF)(hl:0<af l/\af l<=1000)(i:Nat)(hi:i<af l)(q:Rat)(j:aM 1000 q)(o:∀s∈l,nT 1000 s)(g:tr q (l.getD i fc)):bm 45 [iH l,aj i,bR q] (.aH [iH (zm l i q).1,iH (zm l i q).2,cY]):=by
 refine nF (.f3 (v_ l) .ii (ij q)) (lX qc (h:=?_));obtain⟨x,p,a⟩:=gw hi;have k:l.getD i fc=x:=by rw[bT,a];rfl
 rw[k]at g;obtain⟨r,t⟩:=g;obtain⟨u,v⟩:=o _ p;have b:=jO pO a;have n:=BM q x.lo j u ai;have d:=BM q x.hi j v ai;have e:x.hl=true->e6 (q-x.lo)=1:=λh=>EX (r h)
 have f:x.hh=true->e6 (q-x.hi)= -1:=λh=>yf (t h)
 have hh:zm l i q=(l.set i ⟨x.lo,q,x.hl,true⟩,l.set i ⟨q,x.hi,true,x.hh⟩):=by unfold zm;rw[k]
 rw[hh];obtain⟨lo,hi',m,c⟩:=x;simp only[gL,bk,gv,fS]at b;simp only[go_sem,aV 45 qc,bR,bk];cases m
 .cases c
  .simp(disch:=omega)only[go_sem,ak 45 qc 5,ak 45 qc 4,iH,iq,b];refine DV l hl i hi q lo hi' _ _ a _ _ ?_ ?_ ?_ ?_ ?_
   all_goals(simp only[go_sem];try rfl)
  .simp(disch:=omega)only[go_sem,ak 45 qc 5,ak 45 qc 4,iH,iq,b];refine use d ?_;simp only[go_sem,f rfl];refine DV l hl i hi q lo hi' _ _ a _ _ ?_ ?_ ?_ ?_ ?_
   all_goals(simp only[go_sem];try rfl)
 .simp(disch:=omega)only[go_sem,ak 45 qc 5,ak 45 qc 4,iH,iq,b];refine use n ?_;cases c
  .simp only[go_sem,e rfl];refine DV l hl i hi q lo hi' _ _ a _ _ ?_ ?_ ?_ ?_ ?_
   all_goals(simp only[go_sem];try rfl)
  .simp only[go_sem,e rfl];refine use d ?_;simp only[go_sem,f rfl];refine DV l hl i hi q lo hi' _ _ a _ _ ?_ ?_ ?_ ?_ ?_
   all_goals(simp only[go_sem];try rfl)
@[go_sem]theorem azB(n:Nat)(l:List aF):bM (mh n l)=true/\cellsOf (mh n l)=[mh n l]/\V.one (mh n l)=true:=⟨rfl,rfl,rfl⟩
@[go_sem]theorem azH(o:aF):bM (bN o)=true/\cellsOf (bN o)=[bN o]/\V.one (bN o)=true:=⟨rfl,rfl,rfl⟩
@[go_sem]theorem azE(s:List dF):bM (iH s)=true/\cellsOf (iH s)=[iH s]/\V.one (iH s)=true:=⟨rfl,rfl,rfl⟩
@[go_sem]theorem azK(n:Nat)(l:List aF):bM (dc n l)=true/\cellsOf (dc n l)=[dc n l]/\V.one (dc n l)=true:=⟨rfl,rfl,rfl⟩
@[go_sem]theorem azx(n:Nat):bM (fl n)=true/\cellsOf (fl n)=[fl n]/\V.one (fl n)=true:=⟨rfl,rfl,rfl⟩
def vq{l:List f}{a:f}(h:l[d]? =some a):l.take (d+1)=l.take d++[a]:=by rw[List.take_add_one,h];rfl
structure nc (l:List Int) (B:Nat) (H0 H:ah):Prop where
 t:∃i,i<=af l/\H.get 5=an (dN l i) 0
 k:∀y,y<B->y≠5->H.get y=H0.get y
 n:B<=H.ag/\5<B
variable{R:List Int}
def nc.push{B:Nat}(h:nc R B b I)(o:dU):nc R B b (I.push o):=by have a:=h.n;obtain⟨i,hi,e⟩:=h.t;exact⟨⟨i,hi,by rw[ah.bl,ao aa];exact e⟩,λy d c=>by rw[ah.bl,ao aa];exact h.k y d c,Nat.le_succ_of_le a.1,a.2⟩
def nc.set{B:Nat}(h:nc R B b I)(g:B<=a)(o:dU):nc R B b (I.set a o):=by have d:=h.n;obtain⟨i,hi,e⟩:=h.t;exact⟨⟨i,hi,by rw[ah.aT,ao aa];exact e⟩,λy f c=>by rw[ah.aT,ao aa];exact h.k y f c,d⟩
def nc.tape{B:Nat}(h:nc R B b I)(hi:a<=af R):nc R B b (I.set 5 (an (dN R a) 0)):=⟨⟨a,hi,by rw[ah.aT,ay rfl]⟩,λy d c=>by rw[ah.aT,ao aa];exact h.k y d c,h.n⟩
def apM{B:Nat}(h:nc R B b I:=by repeat (first|assumption|refine nc.push ?_ _|refine nc.tape ?_ (by assumption)|refine nc.set ?_ (by first|exact nlrf _|omega|(simp only[go_sem];omega)) _)):nc R B b I:=h
def V5(s:dF):qe (gB s)=jB s:=by obtain⟨lo,hi,a,b⟩:=s;cases a<;>cases b<;>simp[qe,gB,jB,uc]
def VG(l:List dF):(l.map gB).all qe=l.all jB:=by rw[List.all_map];exact congrArg l.all (funext V5)
section
structure jH (H:ah) (k n:Nat) (v:V) (xs:List V) (b g:Nat):Prop where
 row:H.get b=an xs g
 vz:(g=0/\v=.slice b 0 n (.known n))\/(g≠0/\v=.slice b 0 n (.grown k)/\(∃f,H.get g=.bV b f/\f<=b)/\g<H.ag)
 len:af xs=n*k
 lt:b<H.ag
section
variable {H:ah}{k n:Nat}{v:V}{xs:au}{b g:Nat}
def jH.ap2(h:jH H k n v xs b g):di v=some (.val (aj n)):=by rcases h.vz with⟨_,rfl⟩|⟨_,rfl,_⟩<;>rfl
def jH.bM(h:jH H k n v xs b g):bM v=true/\cellsOf v=[v]/\V.one v=true:=by rcases h.vz with⟨_,rfl⟩|⟨_,rfl,_⟩<;>exact⟨rfl,rfl,rfl⟩
theorem jH.bz(h:jH H k n v xs b g){i:Int}{ik:IntKind}(hi:0<=i/\i<n):dO none k [v,.int ik i]=some (.val (.ptr b (i.toNat*k))):=by rcases h.vz with⟨_,rfl⟩|⟨_,rfl,_⟩<;>(rw[cH hi,eW])
def jH.gr(h:jH H k n v xs b g):H.gr b g=true:=by
 rcases h.vz with⟨a,_⟩|⟨_,_,⟨f,c,d⟩,_⟩
 .exact gJ.2 (.inl a)
 .exact wB c d
theorem jH.bG(h:jH H k n v xs b g)(s o:Nat):jd false s [.ptr b o] H=dw xs o:=by rw[IS,h.row];exact Bb h.gr
def jH.dz(h:jH H k n v xs b g):H.dz b 0 (n*k)=some xs:=by unfold ah.dz;rw[yW h.row h.gr];show cW (eH xs 0) (n*k)=_;rw[dQ,je h.len]
theorem jH.keep{H':ah}(h:jH H k n v xs b g)(c:H'.get b=H.get b)(d:g=0\/H'.get g=H.get g)(m:H.ag<=H'.ag):jH H' k n v xs b g:=by
 refine⟨c.trans h.row,?_,h.len,by have:=h.lt;omega⟩;rcases h.vz with a|⟨a,e,⟨f,i,j⟩,l⟩
 .exact .inl a
 grind
def jH.wj(h:jH H k n v xs b g):g=0\/g<H.ag:=by
 rcases h.vz with⟨a,_⟩|⟨_,_,_,c⟩
 .exact .inl a
 .exact .inr c
theorem aqw{xs b:au}(h:dj c xs a=some b):af b=af xs:=by grind [mH,bw,e8,lB]
theorem jH.st(h:jH H k n v xs b g){m:Nat}{d:au}{w:V}(p:dj c xs a=some d)(r:Go.ax.bM w=true)(q:cellsOf w=c)(s:bt (c_ c) m=true)(t:dI c=true):
 ∃j,qB m [.ptr b a,w] H=some (V.undef,j)/\jH j k n v d b g/\(∀y,y≠b->(g=0\/y≠g)->j.get y=H.get y)/\j.ag=H.ag:=by
 have hl:=aqw p;rcases h.vz with⟨e,i⟩|⟨e,i,⟨f,o,x⟩,z⟩
 .subst e;refine⟨H.set b (an d 0),?_,⟨by rw[ah.aT,ay rfl],.inl ⟨rfl,i⟩,hl.trans h.len,h.lt⟩,λy A _=>by rw[ah.aT,ao (Ne.symm A)],rfl⟩;rw[auY,h.row,T3,r,q,s,t,p];rfl
 .have l:dB H b g xs:=⟨h.row,⟨f,o,x⟩,e⟩;have D:=l.L4;refine⟨ah.wr H b g d,B7 l p r q s t,?_,λy i o=>qi i (o.resolve_left e),rfl⟩;obtain⟨u,B,C⟩:=(l.written d).bV;exact⟨(l.written d).row,.inr ⟨e,i,⟨u,B,C⟩,z⟩,hl.trans h.len,h.lt⟩
theorem P5{bytes m:Nat}{new:au}(h:jH H k n v xs b g)(P:0<m)(Q:0<n)(hl:af new=m*k)(G:0<k)(J:dI new=true)(E:af xs+af new<=1000000000/\bytes<=1024)
 (u:∀A c i d,jH c k (n+m) A (xs++new) i d->(g=0/\H.ag<d\/g≠0/\d=g)->H.ag<=i->i≠d->(∀y,y<H.ag->(g=0\/y≠g)->c.get y=H.get y)->H.ag<c.ag->s (put j x A) c):
 gW x s j (fU k bytes [v,.slice H.ag 0 m (.known m)] (H.push (an new 0))):=by
 have O:=h.lt;have R:=h.len;have I:n+m<=(n+m)*k:=yJ _ G;rw[fT]at I;have p:jH (H.push (an new 0)) k n v xs b g:=h.keep (by rw[ah.bl,ao aa]) (by
  rcases h.wj with h|h
  .exact .inl h
  .exact .inr (by rw[ah.bl,ao aa])) (s9 _)
 have F:=h.wj;have C:eu (H.push (an new 0)) k m (.slice H.ag 0 m (.known m))=some new:=by show(H.push (an new 0)).dz H.ag 0 (m*k)=some new;rw[fO (cs:=new) (by rw[ah.bl,ay rfl]),dQ,je hl]
 have t:jx (n+m) bytes=true:=q5 ⟨aa,c5 (iP (aa:n+m<=1000000000) E.2) ai⟩;have B:fU k bytes [v,.slice H.ag 0 m (.known m)] (H.push (an new 0))=ku k bytes v m new (H.push (an new 0)):=by show aq (some m) (λn=>aq (eu _ k n _) λnew=>ku k bytes v n new _)=_;show aq (eu _ k m _) _=_;rw[C];rfl
 have w:=p.dz;have z:=sv (aa:m≠0);have r:af (xs++new)=(n+m)*k:=b4;rw[B];rcases p.vz with⟨a,o⟩|⟨a,o,⟨f,D,L⟩,M⟩
 .subst a o;have l:ku k bytes (.slice b 0 n (.known n)) m new (H.push (an new 0))=lG (H.push (an new 0)) k (n+m) (xs++new):=by show Bool.casesOn (motive:=λ_=>Option (V×ah)) (fN m) (aX (jx (n+m) bytes) (Bool.casesOn (motive:=λ_=>Option (V×ah)) (b6 (n+m) n) (aq ((H.push (an new 0)).dz b 0 (n*k)) λq=>lG (H.push (an new 0)) k (n+m) (dJ q new)) _)) _=_;rw[z,t,w,show b6 (n+m) n=false from mo.2 λe=>by have:=jI e;omega];show lG _ k (n+m) (dJ xs new)=_;rw[iW]
  rw[l];refine u _ _ (H.ag+1) (H.ag+2) ⟨?_,.inr ⟨aa,rfl,⟨H.ag+1,?_,aJ _⟩,?_⟩,r,?_⟩ (.inl ⟨rfl,aa⟩) aa aa (λy K _=>?_) ?_
  .rw[ah.bl,ao ff,ah.bl,ay eJ];rfl
  .rw[ah.bl,ay eJ];rfl
  .simp only[go_sem];omega
  .simp only[go_sem];omega
  .rw[ah.bl,ao ff,ah.bl,ao ff,ah.bl,ao aa]
  .simp only[go_sem];omega
 .subst o;have l:ku k bytes (.slice b 0 n (.grown k)) m new (H.push (an new 0))=some (.slice (H.ag+1) 0 (n+m) (.grown k),((H.push (an new 0)).push (an (xs++new) g)).set g (.bV (H.ag+1) (H.ag+1))):=by show Bool.casesOn (motive:=λ_=>Option (V×ah)) (fN m) (aX (jx (n+m) bytes) (aX (and (bt k k) (dI new)) (aq ((H.push (an new 0)).dz b 0 (n*k)) λq=>oJ (H.push (an new 0)) k b (n+m) (dJ q new)))) _=_;rw[z,t,J,show bt k k=true from uA k,w];show oJ (H.push (an new 0)) k b (n+m) (dJ xs new)=_;unfold oJ;rw[p.row];show dU.casesOn (motive:=λ_=>Option (V×ah)) ((H.push (an new 0)).get g) _ _ _ _=_;rw[D];show aX (and (bt b b) (!(fN g))) _=_;rw[show bt b b=true from uA b,sv a,iW];rfl
  rw[l];have N:=F.resolve_left a;refine u _ _ (H.ag+1) g ⟨?_,.inr ⟨a,rfl,⟨H.ag+1,?_,aJ _⟩,?_⟩,r,?_⟩ (.inr ⟨a,rfl⟩) aa aa (λy K S=>?_) ?_
  .rw[ah.aT,ao aa,ah.bl,ay eJ]
  .rw[ah.aT,ay rfl]
  .simp only[go_sem];omega
  .simp only[go_sem];omega
  .rw[ah.aT,ao aa,ah.bl,ao ff,ah.bl,ao aa]
  .simp only[go_sem];omega
end
def CI(l:List Int)(f:Nat)(a:V)(args:au)(R:V->Prop):Prop:=∀(H:ah) (b i:Nat),5<=b->i<=af l->H.get b=an (dN l i) 0->
 dm f (a:: .ptr b 0::args) H λv d=>R v/\∃c,c<=af l/\d=H.set b (an (dN l c) 0)
theorem avl{a:V}{args:au}{f:V->Prop}(j:bA a)(k:ct args)
 (h:∀i,i<=af R->dm d (a:: .ptr 5 0::args) (ah.one 5 6 (dN R i)) λn e=>∃c v,c<=af R/\e.get 5=an (dN R c) 0/\bS e (ah.one 5 e.ag (dN R c)) n v/\bA v/\f v):CI R d a args f:=by
 intro H b i l hi m;refine(ME (R:=λv g=>f v/\∃c,c<=af R/\g=dN R c) m (DF R i) l ⟨0,aI⟩ (args2:=a:: .ptr 5 0::args) (.cons (iE.free j) (.cons ?_ (k7.free k))) ?_).mono ?_
 .have:=iE.ptr (E:=qd 5 b) (k:=5+1) (b:=5) 0 ai;rwa[show qd 5 b 5=b from ay rfl]at this
 .refine(h i hi).mono ?_
  grind [DF]
 grind
def av2{a:V}{args:au}{f:V->Prop}(h:CI R d a args f)(k:5<=m)(hi:D<=af R)(l:I.get m=an (dN R D) 0)
 (n:∀v c,f v->c<=af R->s (put j x v) (I.set m (an (dN R c) 0))):qH e9 5 x s j I (some (.fn d,a:: .ptr m 0::args)):=
 (h I m D k hi l).mono λv o ⟨g,c,i,e⟩=>by rw[e];exact n v c g i
def Sx(n:Nat)(x:xl):bt (c_ (eS n x)) 9=true/\dI (eS n x)=true/\∀a b c d e f g h i:V,dj (eS n x) [a,b,c,d,e,f,g,h,i] 0=some (eS n x):=by
 rcases x with⟨_,_,_,_⟩|(_|_|⟨b,_⟩)
 .exact⟨rfl,rfl,λ_ _ _ _ _ _ _ _ _=>rfl⟩
 .exact⟨rfl,rfl,λ_ _ _ _ _ _ _ _ _=>rfl⟩
 .exact⟨rfl,rfl,λ_ _ _ _ _ _ _ _ _=>rfl⟩
 .cases b<;>exact⟨rfl,rfl,λ_ _ _ _ _ _ _ _ _=>rfl⟩
end
def pL(i:Nat):Nat:=if i=0 then 9 else if i<=2 then 25 else 57
def Ai(k m:Nat)(l:List dF):Prop:=af l=m/\∀x∈l,nT k x/\(x.hl=true->x.hh=true->x.lo<x.hi)
structure ur (Q:pZ->Prop) (p:fM) (b:List dF) (n N:Nat) (t:aY):Prop where
 ES:t.s<=3
 nn:n<=2*t.s+1
 Dz:N=2*min n t.s+1
 b0:t.bs 0=b
 oK:∀i,i<N->Ai (pL i) p.n (t.bs i)
 sp:∀i,i<min n t.s->t.v i<p.n/\aM 81 (t.a i)/\tr (t.a i) ((t.bs i).getD (t.v i) fc)/\t.bs (2*i+1)=qk (t.bs i) (t.v i) (t.a i)/\t.bs (2*i+2)=qx (t.bs i) (t.v i) (t.a i)
 gh:∀i,t.s<=i->i<n->w_ p (t.er i) (t.gh i)/\Q (t.gh i)
 bd:b.all jB=true->∀i,i<N->(t.bs i).all jB=true
 n8:∀i,i<min n t.s->vG ((t.bs i).getD (t.v i) fc) (t.a i)
variable{Q:List dF}
def ur.leaf{b:pZ->Prop}{p:fM}{t:aY}(h:ur b p Q a d t)(j:t.s<=a)(k:a<d){f:pZ}(g:w_ p (t.er a) f/\b f):ur b p Q (a+1) d { t with gh:=λi=>if i=a then f else t.gh i }:=by
 have b_:=h.Dz;have m:=h.nn;refine⟨h.ES,by show a+1<=2*t.s+1;omega,by show d=2*min (a+1) t.s+1;omega,h.b0,h.oK,λi hi=>h.sp i (by change i<min (a+1) t.s at hi;omega),λi c l=>?_,h.bd,λi hi=>h.n8 i (by change i<min (a+1) t.s at hi;omega)⟩;show w_ p (t.er i) (if i=a then f else t.gh i)/\b (if i=a then f else t.gh i);by_cases e:i=a
 .subst e;rw[ay rfl];exact g
 .rw[ao e];exact h.gh i c aa
def IP(i:Nat):pL i<=57:=by unfold pL;split;decide;split;decide;decide
def apL(h:a<=2):pL a+pL a+7<=pL (2*a+1)/\pL (2*a+1)=pL (2*a+2)/\pL a<=pL (2*a+1):=by have:a=0\/a=1\/a=2:=aa;rcases this with rfl|rfl|rfl<;>decide
def WN(h:Ai d D Q)(hi:O<D){a:Rat}(o:aM m a)(b:d<=m)(g:tr a (Q.getD O fc)):Ai m D (qk Q O a)/\Ai m D (qx Q O a):=by
 obtain⟨n,f⟩:=h;obtain⟨y,q,p⟩:=gw (aa:O<af Q);have i:Q.getD O fc=y:=by rw[bT,p];rfl
 obtain⟨⟨r,s⟩,t⟩:=f y q;rw[i]at g;refine⟨⟨by unfold qk;rw[iO];exact n,λx c=>?_⟩,⟨by unfold qx;rw[iO];exact n,λx c=>?_⟩⟩
 .unfold qk at c;rcases yF c with h|rfl
  .obtain⟨⟨j,k⟩,l⟩:=f x h;exact⟨⟨j.mono b,k.mono b⟩,l⟩
  .rw[i];exact⟨⟨r.mono b,o⟩,λe _=>g.1 e⟩
 .unfold qx at c;rcases yF c with h|rfl
  .obtain⟨⟨j,k⟩,l⟩:=f x h;exact⟨⟨j.mono b,k.mono b⟩,l⟩
  .rw[i];exact⟨⟨o,s.mono b⟩,λ_ e=>g.2 e⟩
def aY.tW(t:aY)(n q:Nat)(a:Rat):aY:= { t with v:=λi=>if i=n then q else t.v i,a:=λi=>if i=n then a else t.a i,bs:=λi=>if i=2*n+1 then qk (t.bs n) q a else if i=2*n+2 then qx (t.bs n) q a else t.bs i }
def VE(h:Q.all jB=true){i:Nat}(a:Rat)(hi:i<af Q):(qk Q i a).all jB=true/\(qx Q i a).all jB=true:=by
 have c:jB (Q.getD i fc)=true:=by rw[bT,c4 hi];exact qJ.1 h _ (s5 hi)
 unfold jB at c;rw[de]at c;refine⟨qJ.2 λx b=>?_,qJ.2 λx b=>?_⟩
 .unfold qk at b;rcases yF b with d|rfl
  .exact qJ.1 h x d
  .unfold jB;rw[c.1];rfl
 .unfold qx at b;rcases yF b with d|rfl
  .exact qJ.1 h x d
  .unfold jB;rw[c.2];rfl
def ur.split{o:pZ->Prop}{p:fM}{t:aY}(h:ur o p Q d m t)(F:d<t.s){a:Rat}(k:D<p.n)(u:aM (pL d+pL d+7) a)(w:tr a ((t.bs d).getD D fc))(A:vG ((t.bs d).getD D fc) a):ur o p Q (d+1) (m+2) (t.tW d D a):=by
 have b_:=h.Dz;have B:=h.ES;obtain⟨C,E,bX⟩:=apL (aa:d<=2);obtain⟨x,y⟩:=WN (h.oK d aa) k (u.mono C) bX w;have f:∀i,i≠2*d+1->i≠2*d+2->(t.tW d D a).bs i=t.bs i:=λi b c=>by show(if i=2*d+1 then _ else if i=2*d+2 then _ else t.bs i)=_;rw[ao b,ao c]
 have hl:(t.tW d D a).bs (2*d+1)=qk (t.bs d) D a:=ay rfl;have l:(t.tW d D a).bs (2*d+2)=qx (t.bs d) D a:=by show(if 2*d+2=2*d+1 then _ else if 2*d+2=2*d+2 then _ else t.bs _)=_;rw[ao aa,ay rfl]
 have g:∀i,i≠d->(t.tW d D a).v i=t.v i/\(t.tW d D a).a i=t.a i:=λi e=>⟨ao e,ao e⟩
 have j:(t.tW d D a).v d=D/\(t.tW d D a).a d=a:=⟨ay rfl,ay rfl⟩;refine⟨B,by show d+1<=2*t.s+1;omega,by show m+2=2*min (d+1) t.s+1;omega,by rw[f 0 aa aa];exact h.b0,λi hi=>?_,λi hi=>?_,λi z G=>?_,λr i hi=>?_,λi hi=>?_⟩
 .by_cases b:i=2*d+1
  .subst b;rw[hl];exact x
  .by_cases c:i=2*d+2
   .subst c;rw[l,<-E];exact y
   .rw[f i b c];exact h.oK i aa
 .change i<min (d+1) t.s at hi;rw[f i aa aa];by_cases e:i=d
  .subst e;rw[j.1,j.2,hl,l];exact⟨k,u.mono (by have:=IP (2*i+1);omega),w,rfl,rfl⟩
  .rw[(g i e).1,(g i e).2,f (2*i+1) aa aa,f (2*i+2) aa aa];exact h.sp i aa
 .change t.s<=i at z;omega
 .have q:=VE (h.bd r d aa) (i:=D) a (by rw[(h.oK d aa).1];exact k);by_cases b:i=2*d+1
  .subst b;rw[hl];exact q.1
  .by_cases c:i=2*d+2
   .subst c;rw[l];exact q.2
   .rw[f i b c];exact h.bd r i aa
 .change i<min (d+1) t.s at hi;rw[f i aa aa];by_cases e:i=d
  .subst e;rw[j.1,j.2];exact A
  .rw[(g i e).1,(g i e).2];exact h.n8 i aa
def ur.ok{d:pZ->Prop}{p:fM}{t:aY}(h:ur d p Q (2*t.s+1) a t)(f:∀x∈Q,nT 9 x/\(x.hl=true->x.hh=true->x.lo<x.hi)):t.aG p:=by have b_:=h.Dz;refine⟨h.ES,λn b=>(h.oK n aa).1,λn b x c=>?_,λn b=>(h.sp n aa).1,λn b=>(h.sp n aa).2.1,λn b=>(h.sp n aa).2.2.1,λn b=>(h.sp n aa).2.2.2.1,λn b=>(h.sp n aa).2.2.2.2,λn e j=>(h.gh n e aa).1,λx c=>f x (by rw[<-h.b0];exact c)⟩;obtain⟨g,i⟩:=((h.oK n aa).2 x c).1;have:=IP n;exact⟨g.mono aa,i.mono aa⟩
def TB(b:f->au):∀m:List f,oo (m.map b)=c3 b m
 |[]=>rfl
 |a::m=>by show b a++oo (m.map b)=b a++c3 b m;rw[TB b m]
def u6(k:Int):au:=[aj k,aR,.aA,aR,.aA]
def U_(b d a c:Nat):Prop:=b≠a/\(d=0\/d≠a/\d≠c/\d≠b/\12<=d)/\(c=0\/c≠b/\c≠a/\12<=c)/\10<=b/\b≠11/\10<=a/\a≠11
def qF:au:=[aj 0,aj 0,.str [],aj 0,aj 0,aj 0,.aA,.aA,aj 0]
structure U' (kk:Int) (Q:pZ->Prop) (l:List Int) (p:fM) (b:List dF) (Wo:Rat) (k:Nat) (F:Fr) (H:ah) (n N:Nat) (t:aY) (L:List (List V)) (ys:List V) (UA:V) (LW Q6:Nat) (Uz:V) (LV Q5:Nat):Prop where
 aza:k=2*t.s+1-n
 d:ur Q p b n N t
 f:rd 0 F=.ptr 5 0/\rd 7 F=.ptr 6 0/\rd 11 F=.ptr 8 0/\rd 12 F=.ptr 9 0/\rd 13 F=.ptr 11 0/\rd 14 F=Uz/\rd 15 F=aj (t.s-n:Nat)/\rd 16 F=aj n
 tp:∃i,i<=af l/\H.get 5=an (dN l i) 0
 azk:H.get 6=an [aj p.n,aj p.n,bN p.obj,mh p.n p.is,mh p.n p.es] 0
 hJ:H.get 8=an (u6 kk) 0
 e3:H.get 9=an [.aA,.str [],.aA] 0
 qh:H.get 11=an [bE bZ (b.map gB),.str (aO Wo),UA] 0
 aAL:jH H 9 N UA (oo L) LW Q6
 axX:L.length=N/\(∀r∈L,af r=9)/\∀i,i<n->L[i]? =some (eS p.n (t.nd i))
 rD:jH H 1 N Uz ys LV Q5
 axW:∀i,i<N->ys[i]? =some (iH (t.bs i))
 ay_:U_ LW Q6 LV Q5
 hn:12<=H.ag
def KW{v:V}(h:jH b a d v c m D)(e:nc R b.ag b I)(f:m≠5)(h2:D=0\/D≠5):jH I a d v c m D:=
 h.keep (e.k m h.lt f) (by
  rcases h.wj with h3|h3
  .exact .inl h3
  .rcases h2 with h2|h2
   .exact .inl h2
   .exact .inr (e.k D h3 h2)) e.n.1
set_option maxHeartbeats 2000000 in
theorem ak8(Q:pZ->Prop)(kk:Int)(l:List Int)(hl:af l<=400)(hz:kY l)(p:fM)(hp:p.aG)(b:List dF)(hb:Ai 9 p.n b)(m:Rat)(f2:aM 81 m)
 (al:∀o:List dF,af o=p.n->(∀x∈o,nT 90 x)->(b.all jB=true->o.all jB=true)->CI l 78 (.agg (u6 kk)) [oh p,iH o] λv=>∃f:pZ,(w_ p (o.map gB) f/\Q f)/\v=.agg (eS p.n (.leaf f))):
 p9 l 33 [oh p,iH b,bR m,aj 3,.agg (u6 kk)] λv=>∃t:aY,t.aG p/\t.bs 0=b/\(∀i,t.s<=i->i<=2*t.s->Q (t.gh i))/\(b.all jB=true->∀i,i<=2*t.s->(t.bs i).all jB=true)/\(∀i,i<t.s->vG ((t.bs i).getD (t.v i) fc) (t.a i))/\v=.agg (jY t p.n m):=by
 have hy:=hp.n;have d8:=oX l hl hz;obtain⟨f1,be⟩:=hb;have eb:=awM b 9 ai aa (λo hs=>(be o hs).1);have ea:=z2 m f2 ai;refine tZ (.f5 (AZ _) (v_ _) (ij _) .ii (.agg (.f5 .ii .bb .aA .bb .aA))) λi0 f8=>eM Tryz.f33 (h:=?_)
 simp only[go_sem,u6,oh,bR,bk,ia,fX]at ea eb⊢;refine use eb ?_;simp only[go_sem,fX];refine use ea ?_;simp only[go_sem,fX];refine jj (d8 4 ai) ai f8 ?_ ?_
 .simp only[go_sem,q7,fX]
 rintro _ i1 ⟨o,hs,rfl⟩ f9;simp only[go_sem];refine b8 (λel F H=>∃c N t L V G C z cs K D,U' kk Q l p b m el F H c N t L V G C z cs K D) (2*o+1) ⟨0,1,⟨o,λ_=>0,λ_=>0,λ_=>.Jj,λ_=>b⟩,[qF],[iH b],.slice 10 0 1 (.known 1),10,0,.slice 12 0 1 (.known 1),12,0,⟨rfl,⟨by show o<=3;omega,cj _,?_,rfl,λi hi=>?_,λi hi=>?_,λi h1 h2=>(nP _ h2).elim,λO i _=>O,λi hi=>?_⟩,?_,⟨i1,f9,?_⟩,?_,?_,?_,?_,⟨?_,.inl ⟨rfl,rfl⟩,rfl,?_⟩,⟨rfl,λr P=>?_,λi hi=>(nP _ hi).elim⟩,⟨?_,.inl ⟨rfl,rfl⟩,rfl,?_⟩,λi hi=>?_,⟨ai,.inl rfl,.inl rfl,ai,ai,ai,ai⟩,?_⟩⟩ ?_
 .omega
 .have:i=0:=aa;subst this;exact⟨f1,be⟩
 .omega
 .omega
 .simp only[go_sem,fX];simp
 iterate 2 simp only[go_sem,fX]
 .simp only[go_sem,fX];rfl
 iterate 2 simp only[go_sem,fX]
 .simp only[go_sem,fX];rfl
 .simp only[go_sem,fX]
 .rw[fj.1 P];rfl
 iterate 2 simp only[go_sem,fX]
 .grind
 .simp only[go_sem,fX];omega
 rintro el F H ⟨c,N,t,L,V,G,C,z,cs,K,D,⟨ht,g,⟨M,f7,a8,a9,w,a',ac,A⟩,⟨i2,bi,ba⟩,dq,hJ,e3,qh,E,⟨fb,a2,a3⟩,rD,a1,dl,hB⟩⟩;have b_:=g.Dz;have hF:=g.ES;have hA:=g.nn;have am:=E.ap2;by_cases h:c<N
 .have c1:((c:Int)<(N:Int))=True:=eq_true aa;have dT:=rD.bz (i:=(c:Int)) (ik:=.i64) aa;have d0:=rD.bG 1 c;rw[IS,iu,a1 c h]at d0;obtain⟨AG,xC⟩:=g.oK c h;have hQ:di (iH (t.bs c))=some (.val (aj (af (t.bs c):Int))):=rfl;simp only[go_sem]at dT;simp only[go_sem,M,f7,w,a',ac,A,qh,dq,am,c1,dT,d0];refine jj (d8 p.n ⟨aa,aa⟩) ai bi ba ?_;rintro _ i3 ⟨q,hE,rfl⟩ f';obtain⟨x,gs,B⟩:=gw (aa:q<af (t.bs c));obtain⟨⟨hk,hn⟩,ho⟩:=xC x gs;have P:=jO pO B;have hx:=IP c;have bo:(t.bs c).getD q fc=x:=by rw[bT,B];rfl
  simp(disch:=omega)only[go_sem,iH,iq,P,M];refine jj (V_ l hl hz x (pL c) (pL c) aa hk hn ho) ai f' ?_ ?_
  .simp only[go_sem]
  rintro _ i4 ⟨a,ha,du,f6,rfl⟩ dE;simp only[go_sem,bR,bk,ac];obtain⟨d1,Y,d3,d4,d5,d6,d7⟩:=dl;have hr:=E.lt;have hq:=rD.lt;have hw:=E.wj;have hv:=rD.wj;have hP:nc l H.ag H H:=⟨⟨i2,bi,ba⟩,λ_ _ _=>rfl,aJ _,aa⟩;obtain⟨j,u⟩:∃j,j=(((H.set 5 (an (dN l i3) 0)).set 5 (an (dN l i4) 0)).push (an [aR,.aA,aR,.aA] 0)).set H.ag (an (bk a) 0):=⟨_,rfl⟩;have J:nc l H.ag H j:=by rw[u];exact apM
  have a4:j.get H.ag=an (bk a) 0:=by rw[u];simp only[go_sem]
  have y1:j.ag=H.ag+1:=by rw[u];rfl
  have eQ:j.get 5=an (dN l i4) 0:=by rw[u];simp only[go_sem,ek (aa:5<H.ag)]
  simp only[bk]at u a4;rw[<-u];clear u;have ci:=KW E J aa aa;have es:=KW rD J aa aa;have cp:=(J.k 6 aa ai).trans dq;have u8:=(J.k 8 aa ai).trans hJ;have e1:=(J.k 9 aa ai).trans e3;have T:=(J.k 11 aa ai).trans qh;have bj:=ci.bz (i:=(c:Int)) (ik:=.i64) aa;simp only[go_sem]at bj;have w1:aE .i64 ((c:Int)+1)=((c+1:Nat):Int):=by rw[aK _ aa];omega
  have fi:∀x∈t.bs c,nT 90 x:=λx B=>⟨(xC x B).1.1.mono aa,(xC x B).1.2.mono aa⟩
  by_cases gg:t.s<=c
  .have c2:(((t.s-c:Nat):Int)=0)=True:=eq_true aa;have al:=al (t.bs c) AG fi λO=>g.bd O c h
   simp only[u6,oh,iH]at al;simp only[u6]at u8;simp only[go_sem,c2,M,f7,a8,w,A,cp,u8,T];refine av2 al ai dE eQ ?_;rintro _ i5 ⟨f,hf,rfl⟩ gc;obtain⟨n1,n2,g1⟩:=Sx p.n (.leaf f);have aw:=ci.keep (H':=j.set 5 (an (dN l i5) 0)) (by rw[ah.aT,ao aa]) (by
    rcases Y with d|d
    .exact .inl d
    .exact .inr (by rw[ah.aT,ao aa])) (aJ _)
   obtain⟨H2,S,a0,W,c0⟩:=aw.st (JY L c (eS p.n (.leaf f)) a2 (x6 _ _) aa) rfl rfl n1 n2 (w:=.agg (eS p.n (.leaf f))) (m:=9);have X:∀y,y≠C->(z=0\/y≠z)->y≠5->H2.get y=j.get y:=λy q1 em g2=>by rw[W y q1 em,ah.aT,ao aa]
   simp only[go_sem,T,bj,S,A,w1];refine⟨2*t.s+1-(c+1),aa,c+1,N, { t with gh:=λi=>if i=c then f else t.gh i },_,V,G,C,z,cs,K,D,⟨rfl,g.leaf gg h hf,⟨?_,?_,?_,?_,?_,?_,?_,?_⟩,⟨i5,gc,?_⟩,?_,?_,?_,?_,a0,⟨?_,?_,?_⟩,es.keep ?_ ?_ ?_,a1,⟨d1,Y,d3,d4,d5,d6,d7⟩,?_⟩⟩
   iterate 6 simp only[go_sem,M,f7,a8,a9,w,a']
   .simp only[go_sem,ac];grind
   .simp only[go_sem]
   .rw[W 5 aa aa,ah.aT,ay rfl]
   .rw[X 6 aa aa ai];exact cp
   .rw[X 8 aa aa ai];exact u8
   .rw[X 9 aa aa ai];exact e1
   .grind
   .grind
   .grind [yF,x6]
   .intro i hi;rw[rS];by_cases e:c=i
    .subst e;rw[ay rfl,ay aa];unfold aY.nd
     grind
    .rw[ao e,a3 i aa];unfold aY.nd;show some (eS p.n (if i<t.s then _ else .leaf (t.gh i)))=some (eS p.n (if i<t.s then _ else .leaf (if i=c then f else t.gh i)));rw[ao (Ne.symm e)]
   .exact X K aa aa aa
   .rcases d3 with d|d
    .exact .inl d
    .exact .inr (X D aa aa aa)
   .rw[c0];exact aJ _
   .rw[c0];show 12<=j.ag;omega
  .have c2:(((t.s-c:Nat):Int)=0)=False:=eq_false aa;have w2:aE .i64 (((t.s-c:Nat):Int)-1)=((t.s-(c+1):Nat):Int):=by rw[aK _ aa];omega
   have dC:=atb (t.bs c) ⟨aa,aa⟩ q aa a (ha.mono aa) (λx B=>⟨(xC x B).1.1.mono aa,(xC x B).1.2.mono aa⟩) (by rw[bo];exact du);have d':=z2 a (ha.mono (aa:_<=200)) ai;simp only[iH,bR,bk]at dC d';have hR:=ek (aa:5<H.ag);have w3:aE .i64 ((N:Int)+1)=((2*c+2:Nat):Int):=by rw[aK _ aa];omega
   have hj:(N:Int)=((2*c+1:Nat):Int):=aa;simp only[go_sem,c2,w2,w,ac,A,a4];refine use dC ?_;simp only[go_sem,w,A,T,a4,am,w3];refine use d' ?_;obtain⟨n1,n2,g1⟩:=Sx p.n (.split q a (2*c+1) (2*c+2));obtain⟨H2,S,a0,W,c0⟩:=ci.st (JY L c (eS p.n (.split q a (2*c+1) (2*c+2))) a2 (x6 _ _) aa) rfl rfl n1 n2 (w:=.agg (eS p.n (.split q a (2*c+1) (2*c+2)))) (m:=9);simp only[eS]at S;rw[<-hj]at S;have e2:=(W 11 aa aa).trans T;simp only[go_sem,w,A,T,am,w3,bj,S,e2];refine P5 (bytes:=112) (m:=2) (new:=qF++qF) a0 ai aa rfl ai rfl ⟨by rw[a0.len];show N*9+18<=_;omega,ai⟩ λU I db g3 ev q1 em g2 eq hS=>?_
   have fn:=(eq 11 aa aa).trans e2;obtain⟨p3,ce,cf⟩:=ev.bM;have co:=ev.keep (H':=I.set 11 (an [bE bZ (b.map gB),.str (aO m),U] 0)) (by rw[ah.aT,ao aa]) (by
    rcases q1 with⟨_,d⟩|⟨d,e⟩
    .exact .inr (by rw[ah.aT,ao aa])
    .exact .inr (by rw[ah.aT,ao aa])) (aJ _)
   have b1:∀y,y<H.ag->y≠C->(z=0\/y≠z)->y≠11->(I.set 11 (an [bE bZ (b.map gB),.str (aO m),U] 0)).get y=j.get y:=λy u Z ab a7=>by rw[ah.aT,ao (Ne.symm a7),eq y aa ab,W y Z ab]
   have et:=es.keep (H':=I.set 11 (an [bE bZ (b.map gB),.str (aO m),U] 0)) (b1 K aa aa aa aa) (by
    rcases d3 with d|d
    .exact .inl d
    .exact .inr (b1 D aa aa aa aa)) (by show j.ag<=I.ag;omega)
   have cb:(I.set 11 (an [bE bZ (b.map gB),.str (aO m),U] 0)).ag=I.ag:=rfl;simp only[go_sem,w,a',fn,p3,ce,cf];refine P5 (bytes:=24) (m:=2) (new:=[bE gL (zm (t.bs c) q a).1,bE gL (zm (t.bs c) q a).2]) et ai aa rfl ai rfl ⟨by rw[et.len];show N*1+2<=_;omega,ai⟩ λv4 H4 fg g4 he r1 r2 hT R hd=>?_
   rw[cb]at r1 r2 R hd;have fd:=co.lt;have fw:=co.wj;rw[cb]at fd fw;simp only[go_sem,A,w1];have ar:∀y,y<H.ag->y≠C->(z=0\/y≠z)->y≠11->(D=0\/y≠D)->H4.get y=j.get y:=λy u Z ab a7 fp=>(R y aa fp).trans (b1 y u Z ab a7)
   have ex:=co.keep (H':=H4) (R db aa aa) (by
    by_cases e:g3=0
    .exact .inl e
    .exact .inr (R g3 aa aa)) (by rw[cb];omega)
   have hI:=rD.len;have go:=g.split aa aa ha (by rw[bo];exact du) (by rw[bo];exact f6);have fs:∀i,i<N->(t.tW c q a).bs i=t.bs i:=λi hi=>by show(if i=2*c+1 then _ else if i=2*c+2 then _ else t.bs i)=_;rw[ao aa,ao aa]
   have fv:oo (L.set c (eS p.n (.split q a (2*c+1) (2*c+2))))++(qF++qF)=oo (L.set c (eS p.n (.split q a (2*c+1) (2*c+2)))++[qF,qF]):=by unfold oo;rw[yd];show _=_++(qF++(qF++[]));rw[hU]
   rw[fv]at ex;refine⟨2*t.s+1-(c+1),aa,c+1,N+2,t.tW c q a,_,_,U,db,g3,v4,fg,g4,⟨rfl,go,⟨?_,?_,?_,?_,?_,?_,?_,?_⟩,⟨i4,dE,?_⟩,?_,?_,?_,?_,ex,⟨?_,?_,?_⟩,he,?_,⟨aa,aa,aa,aa,aa,aa,aa⟩,aa⟩⟩
   iterate 6 simp only[go_sem,M,f7,a8,a9,w]
   .simp only[go_sem];rfl
   .simp only[go_sem]
   .exact(ar 5 aa aa aa aa aa).trans eQ
   .exact(ar 6 aa aa aa aa aa).trans cp
   .exact(ar 8 aa aa aa aa aa).trans u8
   .exact(ar 9 aa aa aa aa aa).trans e1
   .rw[R 11 aa aa,ah.aT,ay rfl]
   .rw[bw,iO,fb];rfl
   .intro r P;rcases ki.1 P with h|h
    .rcases yF h with h|rfl
     .exact a2 r h
     .exact x6 _ _
    .simp only[jr,rV,or_false]at h;rcases h with rfl|rfl<;>rfl
   .intro i hi;rw[s4 (by rw[iO];omega),rS];by_cases e:c=i
    .subst e;rw[ay rfl,ay aa];unfold aY.nd;rw[ay (by show c<t.s;omega)];show _=some (eS p.n (.split (if c=c then q else t.v c) (if c=c then a else t.a c) (2*c+1) (2*c+2)));rw[ay rfl,ay rfl]
    .rw[ao e,a3 i aa];unfold aY.nd;rw[ay aa,ay (by show i<t.s;omega)];show _=some (eS p.n (.split (if i=c then q else t.v i) (if i=c then a else t.a i) (2*i+1) (2*i+2)));rw[ao (Ne.symm e),ao (Ne.symm e)]
   .intro i hi;by_cases e:i<N
    .rw[s4 aa,fs i e];exact a1 i e
    .rw[vI aa];by_cases Z:i=N
     .rw[(aa:i-af V=0)];show some _=some (iH (if i=2*c+1 then _ else _));rw[ay aa];rfl
     .rw[(aa:i-af V=1)];show some _=some (iH (if i=2*c+1 then _ else if i=2*c+2 then _ else _));rw[ao aa,ay aa];rfl
 .have c1:((c:Int)<(N:Int))=False:=eq_false aa;have bD:c=2*t.s+1/\N=2*t.s+1:=aa;obtain⟨ft,hu⟩:=bD;obtain⟨d1,Y,d3,d4,d5,d6,d7⟩:=dl;obtain⟨p3,ce,cf⟩:=E.bM;have fr:L=t.jf.map (eS p.n):=by
   refine oC λi=>?_
   by_cases hi:i<c
   .rw[a3 i hi,aY.jf,hY,hY,p4 aa];rfl
   .rw[lA aa,lA (by rw[gD,aY.jf,gD,rT];omega)]
  rw[fr,TB]at E;have aw:=E.keep (H':=H.set 9 (an [bE bZ (b.map gB),.str (aO m),G] 0)) (by rw[ah.aT,ao aa]) (by
   rcases Y with d|d
   .exact .inl d
   .exact .inr (by rw[ah.aT,ao aa])) (aJ _)
  simp only[go_sem,a9,w,A,e3,qh,am,c1,p3,ce,cf];rw[ft]at g;have dv:bS (H.set 9 (an [bE bZ (b.map gB),.str (aO m),G] 0)) (ah.one 5 H.ag (dN l i2)) G (bE (eS p.n) t.jf):=by
   have ge:t.jf.length=N:=by rw[aY.jf,gD,rT];omega
   have hm:=aw.dz;have h0:(ah.one 5 H.ag (dN l i2)).get C=.none:=by rw[ah.mW,ao aa]
   show bS _ _ G (.row t.jf.length (c3 (eS p.n) t.jf));rw[ge];rcases aw.vz with⟨_,rfl⟩|⟨_,rfl,_⟩
   .exact .row hm aa h0 (dn.refl _)
   .exact .row hm aa h0 (dn.refl _)
  have e0:(b.map gB)=t.er 0:=by unfold aY.er;rw[g.b0]
  refine⟨i2,.agg (jY t p.n m),bi,ba,.agg ?_,.agg (DG _ _ _),t,g.ok be,g.b0,λi h1 h2=>(g.gh i h1 aa).2,λO i h1=>g.bd O i aa,λi h1=>g.n8 i aa,rfl⟩;rw[e0];rw[e0]at dv;exact .f3 .mm .mm dv
variable{G:V->ah->Prop}
def AL(f:Func){args:au}(d m:Nat)(h:bK (aS.cutAt b.ag m d (pS a)) (gC (rE f) G) (mV args 0 .nil) b)(c:nN.get aN a=some f:=by kernel_rfl)(g:tw 5 nN qU f=some (pS a,rE f):=by kernel_rfl)
 (bX:(pS a).m0=true:=by kernel_rfl) (i:b6 f.ntmps m=true:=by rfl) (e:b6 (c_ args) f.ntmps=true:=by rfl):dm a args b G:=C4 hT b_ fI c g bX d m i e h
theorem Cs{B k t:Nat}{R:b5}{r:V}(L:av)(l:B<=k)(hl:∀y i g,y<k->b.get y=an i g->g=0)(f:t∉L/\t<a/\∀u∈L,u<a)(m:bS b (b.low k) (rd t j) r)
 (h:∀c,rd t c=r->gG L c j->bK J R c (b.low k)):bK (.cut B a J) R j b:=by
 refine Ft (b.low k) (λu=>if u=t then r else if u∈L then rd u j else .any) (C_ l hl) (λu _=>?_) (h _ ?_ (rG.2 λu d=>?_))
 .show bS _ _ _ (if u=t then _ else _);by_cases e:u=t
  .grind
  .rw[ao e];split
   .exact .same _
   .exact .any _
 .simp_all [qu,ay]
 .rw[qu _ (f.2.2 u d)];show(if u=t then _ else _)=_;rw[ao (λe=>f.1 (by rw[<-e];exact d)),ay d]
theorem uR{l:Nat}{T:List dW}{R:b5}(g:Nat)(L M:av)(B:Nat)(E:Nat->cm)
 (hi:rd a j=aj 0) (hl:g<1000000000) (v:a∉L/\m∉L/\D∉L/\a≠m/\a≠D/\a∉M/\m∉M/\D∉M) (u:B<=b.ag) (s:∀c j q b,gG M q j->E c j b->E c q b) (t:E 0 j b)
 (W:∀(c:Nat) e f,gG L e j->eC B b f->rd a e=aj c->∀K:cm,(∀i,gG L i j->gG M i e->rd a i=aj c->rd d i=.bool (decide (c<g))->K i f)->k5 e9 5 T K e f)
 (step:∀(c:Nat) e f,c<g->gG L e j->eC B b f->rd a e=aj c->E c e f->bK J (hD l (yL L B a c j b (E (c+1)) (hD O R))) e f)
 (Z:∀e f,gG L e j->eC B b f->E g e f->R .norm e f):
 bK (.loop (.seq (.seq (.c7 T) (.cond (rd d) .skip (.exit O))) (.seq (.block l J) (.c7 [ex m (mv (rd a)),ex D (bi .add (rd m) (kc (aj 1))),ex a (bJ (rd D))])))) (hD O R) j b:=by
 obtain⟨w,y,z,X,Y,S,U,V⟩:=v;refine b8 (λr e f=>∃c,r=g-c/\c<=g/\gG L e j/\eC B b f/\rd a e=aj c/\E c e f) g ⟨0,rfl,cj _,rG.2 λ_ _=>rfl,.refl u,hi,t⟩ ?_;rintro r e f ⟨c,rfl,hm,C,hh,H,A⟩;simp only[go_sem];refine W c e f C hh H _ λi F G I k=>?_
 by_cases h:c<g
 .rw[b3 h]at k;simp only[go_sem,k];refine Go.ax.wp_mono J (λx n o=>CW (λx n o p=>?_) x n o) (step c i f h F hh I (s _ _ _ _ G A));cases x with
  |norm=>
   obtain⟨P,l,bX,Q⟩:=p;have N:aE .i64 ((c:Int)+1)=((c+1:Nat):Int):=by rw[aK _ aa];omega
   show bK (.c7 _) _ n o;simp only[go_sem,bX,N];exact⟨g-(c+1),aa,c+1,rfl,h,o4 w (o4 z (o4 y P)),l,by simp only[go_sem],s _ _ _ _ (o4 S (o4 V (o4 U (rG.2 λ_ _=>rfl)))) Q⟩
  |ret=>exact p
  |exit D=>exact p
 .rw[bP h]at k;have D:c=g:=aa;subst D;simp only[go_sem,k]
  grind
def pN(c:Rat)(t:b9):b9:=(c*t.1,t.2)
def CE(H:ah)(e:Nat)(v:V)(a:au):Prop:=(∃g,bn H 5 v a g/\(g=0\/e<g))\/(a=[]/\v=.slice e 0 0 (.known 0)/\H.get e=an [] 0)
def ajs{bytes:Nat}{v:V}{new:au}(p:CE b a v c)(u:a<b.ag)(hl:af new=5)(o:dI new=true)(i:af c<=1000000000/\bytes<=1024)
 (k:∀e d,CE d a e (c++new)->(∀y,y<=a->d.get y=b.get y)->b.ag<d.ag->s (put j x e) d):gW x s j (fU 5 bytes [v,.slice b.ag 0 1 (.known 1)] (b.push (an new 0))):=by
 rcases p with⟨g,n,w⟩|⟨rfl,rfl,t⟩
 .exact kM n hl ai o ⟨aa,i.2⟩ λe d m h l f r=>k e d (.inl ⟨m,h,aa⟩) (λy q=>f y aa aa) r
 .refine P9 (by simp_all [ah.bl,ao];omega) rfl ?_ ai hl ai ⟨ai,i.2⟩ λe d h l f=>?_
  .show(b.push (an new 0)).dz b.ag 0 (1*5)=some new;simp_all [fO,ah.bl,ay,dQ,kn,je]
  .have f:d.ag=b.ag+1+2:=f;refine k e d (.inl ⟨_,h,.inr aa⟩) (λy q=>?_) aa;rw[l y aa,ah.bl,ao aa]
variable{N:b9}
def Sf(b:b9->f)(h:k[a]? =some N):(k.take (a+1)).map b=(k.take a).map b++[b N]:=by rw[vq h,vJ];rfl
theorem ash(n k kc kb:Nat)(hn:n<=1000)(a b:aF)(W:j0 n a)(X:j0 n b)(c:Rat)(Q:aM kc c)(a5:∀t∈a,aM k t.1)(P:∀t∈b,aM kb t.1)(i:kc+kb<=k)(la:af a<=10000)(lb:af b<=10000)(hq:(k+1)*(af a+af b+1)<=29999999):
 bm 62 [d_ n a,bR c,d_ n b] (d_ n (f_ (a++b.map (pN c)))):=by
 have bd:k<=29999999:=by have:=yJ (k+1) (aa:0<af a+af b+1);omega
 have ar:=z1 (a++b.map (pN c)) n k n aa (λt ht=>by
  rcases ki.1 ht with ht|ht
  .exact W t ht
  .obtain⟨u,p,rfl⟩:=g8.1 ht;exact X u p) (λt ht=>by
  rcases ki.1 ht with ht|ht
  .exact a5 t ht
  .obtain⟨u,p,rfl⟩:=g8.1 ht;exact(Q.mul (P u p)).mono i) b4 b4
 refine nF (.f3 (kA _ _) (ij _) (kA _ _)) (AL th 3 42 ?_);simp only[go_sem,aV 62 th,ak 62 th 5,ak 62 th 4,aS.cutAt,d_,fZ,bR];obtain⟨f,j⟩:∃f,f=(((((ah.zero 5).push (an [aj n,bN a] 0)).push (an (bk c) 0)).push (an [aj n,bN b] 0)).push (an [aj 0,.aA] 0)).push (an [] 0):=⟨_,rfl⟩;have ab:f.get 5=an [aj n,bN a] 0:=by rw[j];simp only[go_sem]
 have ac:f.get 6=an (bk c) 0:=by rw[j];simp only[go_sem]
 have bp:f.get 7=an [aj n,bN b] 0:=by rw[j];simp only[go_sem]
 have hJ:f.get 8=an [aj 0,.aA] 0:=by rw[j];simp only[go_sem]
 have e3:f.get 9=an [] 0:=by rw[j];simp only[go_sem]
 have ba:∀y,y<5->f.get y=.none:=λy q=>by rw[j];simp(disch:=omega)only[go_sem,g6]
 have gn:f.ag=10:=by rw[j];simp only[go_sem]
 rw[<-j];clear j;have a3:di (bN b)=some (.val (aj (af b))):=rfl
 have T:∀(o:Fr) (r:ah) (v:V),rd 3 o=.ptr 5 0->rd 4 o=.ptr 6 0->rd 5 o=.ptr 7 0->rd 6 o=.ptr 8 0->rd 7 o=v->rd 8 o=aj 0->(∀y,y<10->r.get y=f.get y)->10<=r.ag->CE r 9 v (dS a)->
  bK (.loop (pc 62 2)) (hD 0 (gy (bK (aS.cut 5 42 (pc 62 3)) (gC (rE th) λG d=>∃v,bS d (ah.zero d.ag) G v/\bA v/\v=.agg [aj n,bN (f_ (a++b.map (pN c)))])) (gC (rE th) λG d=>∃v,bS d (ah.zero d.ag) G v/\bA v/\v=.agg [aj n,bN (f_ (a++b.map (pN c)))]))) o r:=by
  intro o r v s w x z Y Z al ap hv;have A:∀ {d:ah},eC 10 r d->∀y,y<10->d.get y=f.get y:=λh y q=>(h.1 y q).trans (al y q)
  simp only[ak 62 th 2,ak 62 th 1,ak 62 th 0];refine uR (af b) [3,4,5,6] [7] 10 (λm F H=>CE H 9 (rd 7 F) (dS (a++(b.take m).map (pN c)))) Z aa ai ap (λm F F' H h e=>by grind [ye]) (by rw[Y];simpa using hv) ?_ ?_ ?_
  .intro m I d i hh hi K hK;simp only[go_sem,s,w,x,z]at i;have eB:=(A hh 7 ai).trans bp;simp only[go_sem,i,hi,eB,a3];refine hK _ ?_ ?_ ?_ ?_
   iterate 3 simp only[go_sem,i,s,w,x,z,hi]
   .simp only[go_sem];simp_all
  .intro m I d hm i hh hi B;simp only[go_sem,s,w,x,z]at i;obtain⟨u,aw,p⟩:=gw hm;have N:=(A hh 6 ai).trans ac;have eB:=(A hh 7 ai).trans bp;have bz:=ny (l:=b) (i:=(m:Int)) (k:=.i64) aa;have R:=yp p;have S:=ua p;have M:=sF c u.1 Q (P u aw) aa;simp only[bR,bk]at M;simp only[bk]at R N;have L:bM (bf u.2)=true/\cellsOf (bf u.2)=[bf u.2]/\V.one (bf u.2)=true:=⟨rfl,rfl,rfl⟩;simp only[go_sem,i,hi,N,eB,bz,R,S];refine use M ?_;simp only[go_sem,i,hi,eB,S,L];have bc:=hh.2;refine ajs (new:=gz (pN c u)) B aa rfl rfl ⟨?_,ai⟩ λv' H' D E a4=>?_
   .grind [mM,bw,gD,e8]
   .simp only[go_sem,i,hi,s,w,x,z];refine⟨⟨λy q=>(E y aa).trans (hh.1 y q),aa⟩,?_⟩;rw[Sf _ p,<-gX,wW,show dS [pN c u]=gz (pN c u)from hU _];exact D
  .intro I d i hh B;simp only[go_sem,s,w,x,z]at i;rw[qM]at B;have O:∀y J g,y<9->d.get y=an J g->g=0:=λy J g q e=>by grind
   simp only[go_sem];refine Cs (t:=7) (r:=bN (a++b.map (pN c))) [3,6] (k:=9) ai O ai ?_ λa8 a6 C=>?_
   .rcases B with⟨g,hg,_⟩|⟨L,U,_⟩
    .exact hg.A3 ai O (mM _)
    .rw[U];have:a++b.map (pN c)=[]:=pn (by grind [mM,p5]);rw[this];exact .fQ _ _ _
   simp only[go_sem,i]at C;have a1:(d.low 9).get 5=an [aj n,bN a] 0:=by rw[ah.kN,ay ai,A hh 5 ai];exact ab
   have a2:(d.low 9).get 8=an [aj 0,.aA] 0:=by rw[ah.kN,ay ai,A hh 8 ai];exact hJ
   simp only[go_sem,ak 62 th 3,jm th,C,a6,a1];refine use ar ?_;simp only[go_sem,d_,fZ,C,a2];exact⟨_,.same _,kA n _,rfl⟩
 cases a with
 |nil=>
  have e:fU 5 88 [V.slice 9 0 0 (Cap.known 0),bN []] f=some (.slice 9 0 0 (.known 0),f):=rfl;rw[e];simp only[go_sem];refine T _ _ _ ?_ ?_ ?_ ?_ ?_ ?_ (λ_ _=>rfl) aa (.inr ⟨rfl,rfl,e3⟩)
  all_goals simp only[go_sem]
 |cons t l=>
  refine xM (n:=af (t::l)) (cs:=dS (t::l)) e3 aI (mM _) ai ⟨aa,ai⟩ λv2 H4 D E a4=>?_
  simp only[go_sem];refine T _ _ _ ?_ ?_ ?_ ?_ ?_ ?_ (λy q=>E y aa) aa (.inl ⟨_,D,aa⟩)
  all_goals simp only[go_sem]
def m9(H:ah)(k n:Nat):au->aF->Prop
 |xs,[]=>xs=[]
 |xs,t::l=>∃b a,xs=bk t.1++ .slice b 0 n (.known n)::a/\k<=b/\b<H.ag/\H.get b=.cells (bL t.2) 0/\m9 H k n a l
def m9.mono(o:b.ag<=I.ag)(f:∀y c,a<=y->y<b.ag->b.get y=an c 0->I.get y=an c 0):∀ {l:aF}{g:au},m9 b a d g l->m9 I a d g l
 |[],_,h=>h
 |_::_,_,⟨i,p,j,e,k,m,n⟩=>⟨i,p,j,e,aa,f _ _ e k m,m9.mono o f n⟩
def m9.B5{t:b9}(c:a<=m)(f:m<b.ag)(g:b.get m=an (bL t.2) 0):∀ {l:aF}{i:au},m9 b a d i l->m9 b a d (i++(bk t.1++[.slice m 0 d (.known d)])) (l++[t])
 |[],_,h=>by rw[show _=[]from h];exact⟨m,[],rfl,c,f,g,rfl⟩
 |_::_,_,⟨p,q,e,j,k,n,o⟩=>⟨p,q++(bk t.1++[.slice m 0 d (.known d)]),by rw[e];simp,j,k,n,m9.B5 c f g o⟩
def m9.len{k:Nat}:∀ {l:aF}{c:au},m9 b k a c l->af c=af l*5
 |[],_,h=>by rw[show _=[]from h];rfl
 |_::l,_,⟨f,g,e,_,_,_,d⟩=>by rw[e,bw,dZ,m9.len d,dZ];show 4+(af l*5+1)=_;omega
def m9.eA(c:0<d):∀ {l:aF}{g:au},(∀t∈l,t.2.length=d)->m9 b a d g l->dn b (b.low a) g (dS l)
 |[],_,_,h=>by rw[show _=[]from h];exact .nil
 |t::l,_,hl,⟨k,q,e,o,p,i,j⟩=>by
  rw[e];have f:=hl t aI;have m:bS b (b.low a) (.slice k 0 d (.known d)) (bf t.2):=by unfold bf;rw[f];refine .row (m:=d) ?_ c (by rw[ah.kN,ao aa]) (dn.refl _);rw[fO i,dQ,je (by rw[jz,f])]
  exact .cons (.same _) (.cons (.same _) (.cons (.same _) (.cons (.same _) (.cons m (m9.eA c (λu n=>hl u (by simp[n])) j)))))
def gH(a b:av):av:=List.zipWith (·+ ·) a b
def pQ(t u:b9):b9:=(u.1*t.1,gH u.2 t.2)
def r7(a b:av)(n m:Nat):av:=(kZ n).map λj=>if j<m then a.getD j 0+b.getD j 0 else 0
theorem K8(a b:av)(n m:Nat):af (r7 a b n m)=n:=by unfold r7;rw[gD,rT]
def CM(a b:av)(n m i:Nat):(r7 a b n m)[i]? =if i<n then some (if i<m then a.getD i 0+b.getD i 0 else 0)else none:=by
 unfold r7;rw[hY];by_cases h:i<n
 .rw[ay h,p4 h];rfl
 .rw[ao h,lA (by rw[rT];omega)];rfl
def Vs(a b:av)(n m:Nat)(h:m<n):(r7 a b n m).set m (a.getD m 0+b.getD m 0)=r7 a b n (m+1):=by
 refine oC λi=>?_
 rw[rS,K8,CM,CM];by_cases e:m=i
 .subst e;rw[ay rfl,ay h,ay h,ay aa]
 .rw[ao e,show(if i<m then a.getD i 0+b.getD i 0 else 0)=if i<m+1 then a.getD i 0+b.getD i 0 else 0 by
   by_cases c:i<m
   .rw[ay c,ay aa]
   .rw[ao c,ao aa]]
def Vr(a b:av)(n:Nat)(c:af a=n)(d:af b=n):r7 a b n n=gH a b:=by
 refine oC λi=>?_
 rw[CM];unfold gH;rw[List.getElem?_zipWith];by_cases h:i<n
 .rw[ay h,ay h,c4 aa,c4 aa,bT,bT,c4 aa,c4 aa];rfl
 .rw[ao h,lA aa]
def Vt(a b:av)(n:Nat):bL (r7 a b n 0)=rep [aj 0] n:=by
 have:∀n:Nat,rep [V.int .i64 0] n=bL (aZ n 0):=λn=>by
  induction n with
  |zero=>rfl
  |succ n c=>rw[BP,c,iW];rfl
 rw[this];congr 1;refine oC λi=>?_
 rw[CM,yE];simp
theorem D4(l:av)(i x:Nat):(bL l).set i (aj x)=bL (l.set i x):=by unfold bL;rw[List.map_set]
def grFzl{v:V}{g:au}(h:bn b d v c D)(f:0<d)(hl:∀y i D,y<a->b.get y=an i D->D=0)(o:dn b (b.low a) c g)(n:af c=m*d):bS b (b.low a) v (.row m g):=by
 obtain⟨q,e,k⟩:=h.eA (H2:=b.low a) f (λy j p=>by rw[ah.kN,ao];intro l;exact j (hl y c D l p)) o
 rw[Nat.eq_of_mul_eq_mul_right f (k.trans n)]at e;exact e
theorem zj:∀(l:av) (i:Nat),l.getD i 0<=l.sum
 |[],_=>aJ 0
 |a::l,0=>by rw[List.sum_cons];exact qP _ _
 |a::l,i+1=>by rw[List.sum_cons];exact c5 (zj l i) (Nat.le_add_left _ _)
theorem CN:∀ {a b:av},af a=af b->(gH a b).sum=a.sum+b.sum
 |[],[],_=>rfl
 |x::a,y::b,h=>by show((x+y)::gH a b).sum=_;rw[List.sum_cons,CN (Nat.succ.inj h),List.sum_cons,List.sum_cons];omega
theorem F2{a:av}(h:af a=d)(b:af g=d):af (gH a g)=d:=by unfold gH;grind
set_option maxHeartbeats 1000000 in
theorem at4(n k A:Nat)(hn:0<n/\n<=1000)(a:aF)(Q:j0 n a)(t:b9)(S:t.2.length=n)(sm:∀u∈a,u.2.sum+t.2.sum<=1000000)(ad:∀u∈a,aM k u.1)(ae:aM A t.1)(la:af a<=10000)(hq:(k+A+1)*(af a+1)<=29999999):
 bm 258 [d_ n a,.agg (gz t)] (d_ n (f_ (a.map (pQ t)))):=by
 have d:k+A<=29999999:=by have:=yJ (k+A+1) (aa:0<af a+1);omega
 have U:=zj;have R:j0 n (a.map (pQ t)):=λv z=>by obtain⟨u,r,rfl⟩:=g8.1 z;have:=(Q u r).1;exact⟨F2 this S,by show(gH u.2 t.2).sum<=_;grind [CN,c5]⟩
 have ba:=z1 (a.map (pQ t)) n (k+A) n aa R (λv z=>by obtain⟨u,r,rfl⟩:=g8.1 z;exact(ad u r).mul ae) b4 b4
 refine nF (.f2 (kA _ _) (.agg (Qp t))) (AL r5 3 61 ?_);have bo:di (bN a)=some (.val (aj (af a))):=rfl;simp only[go_sem,aV 258 r5,ak 258 r5 8,ak 258 r5 7,aS.cutAt,d_,fZ];obtain⟨p,q⟩:∃p,p=(((ah.zero 5).push (an [aj n,bN a] 0)).push (an (gz t) 0)).push (an [aj 0,.aA] 0):=⟨_,rfl⟩;have I:p.get 5=an [aj n,bN a] 0:=by rw[q];simp only[go_sem]
 have a3:p.get 6=an (gz t) 0:=by rw[q];simp only[go_sem]
 have bp:p.get 7=an [aj 0,.aA] 0:=by rw[q];simp only[go_sem]
 have cd:∀y,y<5->p.get y=.none:=λy i=>by rw[q];simp(disch:=omega)only[go_sem,g6]
 have gn:p.ag=8:=by rw[q];simp only[go_sem]
 rw[<-q];clear q;simp only[ak 258 r5 5,ak 258 r5 4,ak 258 r5 3];refine uR (af a) [2,3,4] [5] 8 (λm F H=>∃G g,bn H 5 (rd 5 F) G g/\m9 H 8 n G ((a.take m).map (pQ t))/\(g=0\/8<=g)) ?_ aa ai aa (λm F F' H h e=>by grind [ye]) ⟨[],0,?_,rfl,.inl rfl⟩ ?_ ?_ ?_
 .simp only[go_sem]
 .simp only[go_sem];exact .nil
 .intro m N b c hh hi K f;simp only[go_sem]at c;have x:b.get 5=an [aj n,bN a] 0:=(hh.1 5 ai).trans I;simp only[go_sem,c,hi,x,bo];refine f _ ?_ ?_ ?_ ?_
  iterate 3 simp only[go_sem,c,hi]
  .simp only[go_sem];simp_all
 .intro m N b hm c hh hi ⟨G,g,D,s,hg⟩;simp only[go_sem]at c;obtain⟨u,L,r⟩:=gw hm;have ul:=(Q u L).1;have us:=sm u L;have h8:=hh.2;have x:b.get 5=an [aj n,bN a] 0:=(hh.1 5 ai).trans I;have Y:b.get 6=an (gz t) 0:=(hh.1 6 ai).trans a3;have a8:l_ 8 [aj 0] [aj n,aj n]=some (.new (rep [aj 0] n) (.slice n n)):=by rw[iG aa];simp
  have X:=ny (l:=a) (i:=(m:Int)) (k:=.i64) aa;have e2:=ua r;have t1:=yp r;have a0:dw (gz t) 4=some (bf t.2):=rfl;have T:cW (gz t) 4=some (bk t.1):=rfl;have P:=ek (aa:5<b.ag);have ar:=ek (aa:6<b.ag);simp only[go_sem,c,x,a8];simp only[go_sem,ak 258 r5 2,ak 258 r5 1,ak 258 r5 0];refine uR n [2,3,4,5,6,7] [] b.ag (λj F H=>H.get b.ag=an (bL (r7 u.2 t.2 n j)) 0/\H.ag=b.ag+1) ?_ aa ai ff (λm F F' H h e=>e) ⟨?_,?_⟩ ?_ ?_ ?_
  iterate 3 simp only[go_sem,Vt]
  .intro j O l d w E K f;simp only[go_sem,c,hi]at d;have B:l.get 5=an [aj n,bN a] 0:=by rw[w.1 5 aa];simp only[go_sem,P,x]
   simp only[go_sem,d,E,B];refine f _ ?_ trivial ?_ ?_
   iterate 2 simp only[go_sem,c,hi,d,E]
   .simp only[go_sem];simp_all
  .rintro j O l hj d w E ⟨C,a'⟩;simp only[go_sem,c,hi]at d;have B:l.get 5=an [aj n,bN a] 0:=by rw[w.1 5 aa];simp only[go_sem,P,x]
   have M:l.get 6=an (gz t) 0:=by rw[w.1 6 aa];simp only[go_sem,ar,Y]
   have i1:=j8 (l:=u.2) (i:=(j:Int)) (k:=.i64) aa;have i2:=j8 (l:=t.2) (i:=(j:Int)) (k:=.i64) aa;have g1:=jc (l:=u.2) (i:=j) aa;have g2:=jc (l:=t.2) (i:=j) aa;have is:dO none 1 [.slice b.ag 0 n (.known n),aj j]=some (.val (.ptr b.ag (0+(j:Int).toNat*1))):=cH aa;have w1:aE .i64 ((u.2.getD j 0:Nat)+(t.2.getD j 0:Nat):Int)=((u.2.getD j 0+t.2.getD j 0:Nat):Int):=by have:=U u.2 j;have:=U t.2 j;rw[aK _ aa];rfl
   have sp:dj [V.int .i64 ((u.2.getD j 0+t.2.getD j 0:Nat):Int)] (bL (r7 u.2 t.2 n j)) j=some (bL (r7 u.2 t.2 n (j+1))):=by rw[fE (by grind [jz,K8]),D4,Vs _ _ _ _ hj]
   simp(disch:=omega)only[go_sem,c,hi,d,E,B,M,X,e2,a0,i1,i2,g1,g2,is,w1,C,sp];simp_all [eC.set,aJ]
  .rintro O l d w ⟨C,a'⟩;simp only[go_sem,c,hi]at d;rw[Vr _ _ _ ul S]at C;have f:∀y,y<b.ag->l.get y=b.get y:=λy i=>by rw[w.1 y i];simp only[go_sem,ek i]
   have B:=(f 5 aa).trans x;have M:=(f 6 aa).trans Y;have W:=sF u.1 t.1 (ad u L) ae aa;simp only[bR,bk]at W;simp only[bk]at t1 T;simp only[go_sem,d,B,M,X,t1,T];refine use W ?_;simp only[go_sem,d];have bb:=s.len;rw[gD,e8]at bb;refine kM (bytes:=88) (new:=bk (u.1*t.1)++[.slice b.ag 0 n (.known n)]) (D.low f aa) rfl ai rfl ⟨aa,ai⟩ λv' H3 g' q1 co ac cp=>?_
   simp only[go_sem,c,d,hi];refine⟨⟨λy i=>?_,aa⟩,_,_,q1,?_,aa⟩
   .rw[ac y aa aa,f y aa];exact hh.1 y i
   .rw[Sf _ r];have Z:∀y o,y<l.ag->l.get y=an o 0->H3.get y=an o 0:=λy o i e=>by rw[ac y i ((D.low f aa).ne e)];exact e
    exact m9.B5 (t:=pQ t u) aa aa (Z _ _ aa C) (s.mono aa λy o _ h2 e=>Z y o aa (by rw[f y h2];exact e))
 .rintro N b c hh ⟨G,g,D,s,hg⟩;simp only[go_sem]at c;rw[qM]at s;have ab:∀y o g,y<8->b.get y=an o g->g=0:=λy o g i e=>by
   rw[hh.1 y i]at e
   grind
  simp only[go_sem];refine Cs (t:=5) (r:=bN (a.map (pQ t))) [2,4] (k:=8) ai ab ai ?_ λca bv J=>?_
  .exact grFzl D ai ab (s.eA hn.1 λv z=>(R v z).1) s.len
  simp only[go_sem,c]at J;have bi:(b.low 8).get 5=an [aj n,bN a] 0:=by rw[ah.kN,ay ai,hh.1 5 ai];exact I
  have bj:(b.low 8).get 7=an [aj 0,.aA] 0:=by rw[ah.kN,ay ai,hh.1 7 ai];exact bp
  simp only[go_sem,ak 258 r5 6,jm r5,J,bv,bi];refine use ba ?_;simp only[go_sem,d_,fZ,J,bj];exact⟨_,.same _,kA n _,rfl⟩
structure gF (n k s l:Nat) (p:List b9):Prop where
 e:∀t∈p,t.2.length=n/\t.2.sum<=s
 q:∀t∈p,aM k t.1
 l:af p<=l
def gF.exs(h:gF a d m D k)(c:m<=1000000000000):j0 a k:=λt b=>⟨(h.e t b).1,c5 (h.e t b).2 c⟩
def gF.f_(h:gF a d m D k):gF a ((d+1)*D) m D (f_ k):=⟨λt b=>by obtain⟨u,f,c⟩:=EB b;rw[c];exact h.e u f,λt b=>(JE h.q t b).mono (eN _ h.l),c5 (BG k) h.l⟩
def gF.app{f:aF}(h:gF a d m D k)(b:gF a d m O f):gF a d m (D+O) (k++f):=⟨λt c=>(ki.1 c).elim (h.e t) (b.e t),λt c=>(ki.1 c).elim (h.q t) (b.q t),by rw[bw];have:=h.l;have:=b.l;omega⟩
def gF.mono{s' l':Nat}(h:gF a d m D k)(c:d<=O)(f:m<=s')(g:D<=l'):gF a O s' l' k:=⟨λt b=>⟨(h.e t b).1,c5 (h.e t b).2 f⟩,λt b=>(h.q t b).mono c,c5 h.l g⟩
theorem gF.sh{st:Nat}(h:gF a d m D k)(g:N.2.length=a/\N.2.sum<=st)(i:aM O N.1):gF a (d+O) (m+st) D (k.map (pQ N)):=⟨λv c=>by obtain⟨u,b,rfl⟩:=g8.1 c;obtain⟨f,j⟩:=h.e u b;exact⟨F2 f g.1,by show(gH u.2 N.2).sum<=_;grind [CN,Nat.add_le_add]⟩,λv c=>by obtain⟨u,b,rfl⟩:=g8.1 c;exact(h.q u b).mul i,by rw[gD];exact h.l⟩
def kU(a:aF):aF->aF
 |[]=>[]
 |t::l=>f_ (a.map (pQ t))++kU a l
def rI(a b:aF):aF:=f_ (kU a b)
def Uk(a:aF):∀l m,kU a (l++m)=kU a l++kU a m
 |[],_=>rfl
 |t::l,m=>by show f_ _++kU a (l++m)=(f_ _++kU a l)++kU a m;rw[Uk a l m,gX]
def gF.kU{kb g:Nat}{a:aF}(i:gF d m D O a):∀ {b:aF}{lb:Nat},gF d kb g lb b->gF d ((m+kb+1)*O) (D+g) (O*lb) (kU a b)
 |[],lb,_=>⟨(λ_ h=>nomatch h),(λ_ h=>nomatch h),cj _⟩
 |t::n,lb,h=>by have hl:=h.l;rw[dZ]at hl;obtain⟨c,rfl⟩:∃c,lb=c+1:=⟨lb-1,aa⟩;have j:gF d kb g c n:=⟨λu f=>h.e u (pq _ f),λu f=>h.q u (pq _ f),aa⟩;have k:=(i.sh (h.e t (uy ..)) (h.q t (uy ..))).f_;rw[show O*(c+1)=O+O*c by rw[Nat.mul_succ,i_]];exact k.app (gF.kU i j)
theorem ajo{bytes:Nat}{v:V}(l:aF)(h:bn b 5 v c a)(n:af c+af l*5<=1073741824/\bytes<=1024)(k:b.ag≠0)
 (i:∀g d f,bn d 5 g (c++dS l) f->(f=0\/f=a\/b.ag<f)->(∀y,y<b.ag->(a=0\/y≠a)->d.get y=b.get y)->b.ag<=d.ag->s (put j x g) d):gW x s j (fU 5 bytes [v,bN l] b):=by
 cases l with
 |nil=>
  have e:fU 5 bytes [v,bN []] b=some (v,b):=by cases h<;>rfl
  rw[e];exact i v b a (by show bn b 5 v (c++[]) a;grind) (.inr (.inl rfl)) (λ_ _ _=>rfl) (aJ _)
 |cons t l=>
  refine HW (n:=af (t::l)) (new:=dS (t::l)) h rfl (show cW (dS (t::l)) (af (t::l)*5)=some (dS (t::l))from je (mM _)) aI (mM _) ai ?_ ⟨by grind [mM],n.2⟩ k λg d f p r q w=>i g d f p aa q aa
  have:∀m:aF,dI (dS m)=true:=λm=>by
   induction m with
   |nil=>rfl
   |cons u m o=>show(true&&(true&&(true&&(true&&(true&&dI (dS m))))))=true;rw[o];rfl
  exact this _
theorem Ug{kb N s:Nat}(Y:0<d/\d<=1000){a b:aF}(j:gF d m D O a)(k:gF d kb N s b)(h1:D+N<=1000000)(R:O<=1000)(S:s<=1000)(T:(m+kb+1)*(O+1)<=29999999)(U:((m+kb+1)*O+1)*(O*s+1)<=29999999):
 bm 193 [d_ d a,d_ d b] (d_ d (rI a b)):=by
 have al:=j.l;have eK:=k.l;have w:=j.kU k;have tl:=w.l;have a8:O*s<=1000*1000:=iP R S;have Z:=z1 (kU a b) d ((m+kb+1)*O) d aa (w.exs aa) w.q aa (c5 (eN _ aa) U);refine nF (.f2 (kA _ _) (kA _ _)) (AL Tryz.f193 3 28 ?_);have ae:di (bN b)=some (.val (aj (af b))):=rfl;simp only[go_sem,aV 193 Tryz.f193,ak 193 Tryz.f193 5,ak 193 Tryz.f193 4,aS.cutAt,d_,fZ];obtain⟨f,i⟩:∃f,f=(((ah.zero 5).push (an [aj d,bN a] 0)).push (an [aj d,bN b] 0)).push (an [aj 0,.aA] 0):=⟨_,rfl⟩;have E:f.get 5=an [aj d,bN a] 0:=by rw[i];simp only[go_sem]
 have G:f.get 6=an [aj d,bN b] 0:=by rw[i];simp only[go_sem]
 have bp:f.get 7=an [aj 0,.aA] 0:=by rw[i];simp only[go_sem]
 have a4:∀y,y<5->f.get y=.none:=λy o=>by rw[i];simp(disch:=omega)only[go_sem,g6]
 have gn:f.ag=8:=by rw[i];simp only[go_sem]
 rw[<-i];clear i;simp only[ak 193 Tryz.f193 2,ak 193 Tryz.f193 1,ak 193 Tryz.f193 0];refine uR (af b) [2,3,4] [5] 8 (λp F H=>∃g,bn H 5 (rd 5 F) (dS (kU a (b.take p))) g/\(g=0\/8<=g)) ?_ aa ai aa (λp F F' H h C=>by grind [ye]) ⟨0,?_,.inl rfl⟩ ?_ ?_ ?_
 .simp only[go_sem]
 .simp only[go_sem];exact .nil
 .intro p A r c hh hi K V;simp only[go_sem]at c;have z:=(hh.1 6 ai).trans G;simp only[go_sem,c,hi,z,ae];refine V _ ?_ ?_ ?_ ?_
  iterate 3 simp only[go_sem,c,hi]
  .simp only[go_sem];simp_all
 .rintro p A r X c hh hi ⟨g,t,W⟩;simp only[go_sem]at c;obtain⟨u,L,J⟩:=gw X;have ad:=(hh.1 5 ai).trans E;have z:=(hh.1 6 ai).trans G;have bz:=ny (l:=b) (i:=(p:Int)) (k:=.i64) aa;have t1:=Cf J;obtain⟨P,e2⟩:=k.e u L;have I:=at4 d m kb Y a (j.exs aa) u P (λx n=>by have:=(j.e x n).2;omega) j.q (k.q u L) aa (c5 (eN _ aa) T);simp only[d_,fZ]at I;have h8:=hh.2;have n:=(j.kU (b:=b.take p) (lb:=s) ⟨λx n=>k.e x (oD n),λx n=>k.q x (oD n),by grind⟩).l;have o:=BG (a.map (pQ u));rw[gD]at o;simp only[go_sem,c,hi,ad,z,bz,t1];refine use I ?_;simp only[go_sem,c];refine ajo _ t ⟨by rw[mM];omega,ai⟩ aa λv' H' Q q1 a9 am a'=>?_
  simp only[go_sem,c,hi];refine⟨⟨λy o=>(am y aa aa).trans (hh.1 y o),aa⟩,Q,?_,aa⟩;rw[vq J,Uk,show kU a [u]=f_ (a.map (pQ u))from hU _,wW];exact q1
 .rintro A r c hh ⟨g,t,W⟩;simp only[go_sem]at c;rw[qM]at t;have M:∀y B g,y<8->r.get y=an B g->g=0:=λy B g o C=>by
   rw[hh.1 y o]at C
   grind
  simp only[go_sem];refine Cs (t:=5) (r:=bN (kU a b)) [2,4] (k:=8) ai M ai (t.A3 ai M (mM _)) λa0 ap v=>?_
  simp only[go_sem,c]at v;have ab:(r.low 8).get 5=an [aj d,bN a] 0:=by rw[ah.kN,ay ai,hh.1 5 ai];exact E
  have ac:(r.low 8).get 7=an [aj 0,.aA] 0:=by rw[ah.kN,ay ai,hh.1 7 ai];exact bp
  simp only[go_sem,ak 193 Tryz.f193 3,jm Tryz.f193,v,ap,ab];refine use Z ?_;simp only[go_sem,d_,fZ,v,ac];exact⟨_,.same _,kA d _,rfl⟩
def lq(n:Nat)(p:aF):Nat->aF
 |0=>f_ [(1,Z n)]
 |m+1=>rI (lq n p m) p
theorem ast{S L:Nat}(x:a=1\/a=2)(y:gF a d m D k)(e:Nat)(A:e<=1000)(w:∀c,c<=e->gF a O S L (lq a k c))(q:S+m<=1000000)(r:L<=1000)(s:D<=1000)(t:(O+d+1)*(L+1)<=29999999)(u:((O+d+1)*L+1)*(L*D+1)<=29999999):
 bm 194 [d_ a k,aj e] (d_ a (lq a k e)):=by
 have l:=BK 1 ai;have j:=GC a 0 x aa 1 (wO.mono ai);rw[show((1:Int):Rat)=1 from rfl]at l;simp only[d_,fZ]at j;refine nF (.f2 (kA _ _) .ii) (lX Tryz.f194 (h:=?_));simp only[go_sem,aV 194 Tryz.f194,ak 194 Tryz.f194 5,d_,fZ];refine use l ?_;simp only[go_sem];refine use j ?_;simp only[go_sem,ak 194 Tryz.f194 4];simp only[ak 194 Tryz.f194 2,ak 194 Tryz.f194 1,ak 194 Tryz.f194 0];refine uR e [1,2,4,5] [] 7 (λc F H=>H.get 7=an [aj a,bN (lq a k c)] 0/\8<=H.ag) ?_ aa ai (jI rfl) (λc F z H h e=>e) ⟨?_,jI rfl⟩ ?_ ?_ ?_
 .simp only[go_sem]
 .simp only[go_sem];rfl
 .intro c g f b hh hi O v;simp only[go_sem]at b;simp only[go_sem,b,hi];refine v _ ?_ trivial ?_ ?_
  iterate 2 simp only[go_sem,b,hi]
  .simp only[go_sem];grind
 .rintro c g f B b hh hi ⟨bp,i⟩;simp only[go_sem]at b;have o:f.get 5=an [aj a,bN k] 0:=by rw[hh.1 5 ai];simp only[go_sem]
  have n:=Ug aa (w c aa) y q r s t u;simp only[d_,fZ]at n;simp only[go_sem,b,o,bp];refine use n ?_;simp only[go_sem,b,hi,bp];exact⟨eC.set hh (aJ _) _,by rfl,i⟩
 .rintro g f b hh ⟨bp,i⟩;simp only[go_sem]at b;have p:f.get 6=an [aj 0,.aA] 0:=by rw[hh.1 6 ai];simp only[go_sem]
  simp only[go_sem,ak 194 Tryz.f194 3,jm Tryz.f194,b,p,bp];exact⟨_,.same _,kA a _,rfl⟩
def pw(x:Rat):Nat->Rat
 |0=>1
 |n+1=>pw x n*x
theorem ass(x:Rat)(b:aM a x)(n:a<=1000000)(e:Nat)(l:e=1\/e=2):bm 92 [bR x,aj e] (bR (pw x e)):=by
 have c:=BK 1 ai;rw[show((1:Int):Rat)=1 from rfl]at c;have g:=sF 1 x wO b aa;have d:=sF x x b b aa;have h:=sF 1 (x*x) wO (b.mul b) aa;have i:=sF (x*x) (x*x) (b.mul b) (b.mul b) aa;simp only[bR,bk]at c g d h i;refine nF (.f2 (ij x) .ii) (lX mT (h:=?_));simp only[go_sem,aV 92 mT,ak 92 mT 5,bR,bk];refine use c ?_;simp only[go_sem,ak 92 mT 4];have f:ga (gp .rem) [aj 1,aj 2]=some (.val (aj 1)):=by rfl
 have k:ga (gp .rem) [aj 2,aj 2]=some (.val (aj 0)):=by rfl
 have j:ga (gp .quo) [aj 1,aj 2]=some (.val (aj 0)):=by rfl
 have m:ga (gp .quo) [aj 2,aj 2]=some (.val (aj 1)):=by rfl
 rcases l with rfl|rfl
 .refine ug 2 ?_;rw[k3];simp only[go_sem,ak 92 mT 2,ak 92 mT 1,ak 92 mT 0,Int.natCast_one,f];refine use g ?_;simp only[go_sem];refine use d ?_;simp only[go_sem,j];rw[k3];simp only[go_sem,ak 92 mT 2,ak 92 mT 3,jm mT];exact⟨_,.same _,ij _,rfl⟩
 .refine ug 3 ?_;rw[k3];simp only[go_sem,ak 92 mT 2,ak 92 mT 1,ak 92 mT 0,Int.cast_ofNat_Int,k];refine use d ?_;simp only[go_sem,m];rw[k3];simp only[go_sem,ak 92 mT 2,ak 92 mT 1,ak 92 mT 0,f];refine use h ?_;simp only[go_sem];refine use i ?_;simp only[go_sem,j];rw[k3];simp only[go_sem,ak 92 mT 2,ak 92 mT 3,jm mT];refine⟨_,.same _,ij _,?_⟩;rw[show pw x 2=1*(x*x) by show 1*x*x=_;grind]
def jC(n:Nat)(a:List aF)(t:b9):Nat->aF
 |0=>f_ [(t.1,Z n)]
 |k+1=>rI (jC n a t k) (lq n (a.getD k []) (t.2.getD k 0))
def mL(n:Nat)(a:List aF)(p:aF):Nat->aF
 |0=>[]
 |m+1=>f_ (mL n a p m++(jC n a (p.getD m (0,[])) n).map (pN 1))
theorem Ez(n:Nat)(p:aF):af (fZ n p)=2:=rfl
theorem avd{k s l K S L Ak CB:Nat}(W:a=1\/a=2)(b:List aF)(hl:af b=a)(p:aF)(bd:af p<=1000)(ap:∀t∈p,t.2.length=a/\∀i,t.2.getD i 0<=1000)(ba:∀t∈p,aM 100 t.1)
 (hq:∀ab∈b,gF a k s l ab) (R:∀t∈p,∀i,i<a->∀m,m<=t.2.getD i 0->gF a K S L (lq a (b.getD i []) m)) (hT:∀t∈p,∀i,i<=a->gF a K S L (jC a b t i)) (hS:∀m,m<=af p->gF a Ak S CB (mL a b p m))
 (h1:S+S<=1000000) (B:L<=1000/\CB<=1000/\s<=S/\l<=L/\k<=K/\K+1<=Ak) (P:(K+K+1)*(L+1)<=29999999) (Q:((K+K+1)*L+1)*(L*L+1)<=29999999) (h6:(Ak+1)*(CB+L+1)<=29999999):
 bm 129 [d_ a p,bE (fZ a) b,aj a] (d_ a (mL a b p (af p))):=by
 have G:=BK 1 ai;rw[show((1:Int):Rat)=1 from rfl]at G;simp only[bR,bk]at G;refine nF (.f3 (kA _ _) (hH (λab=>.f2 .ii (uT _)) b) .ii) (lX r4 (h:=?_));have a':di (bN p)=some (.val (aj (af p))):=rfl;simp only[go_sem,aV 129 r4,ak 129 r4 8,ak 129 r4 7,d_,fZ];simp only[ak 129 r4 5,ak 129 r4 4,ak 129 r4 3];refine uR (af p) [1,2,3,6,7] [] 7 (λm F H=>∃v,H.get 7=an [aj a,v] 0/\(v=bN (mL a b p m)\/v=.aA/\mL a b p m=[])/\8<=H.ag) ?_ aa ai (jI rfl) (λm F F' H h e=>e) ⟨.aA,?_,.inr ⟨rfl,rfl⟩,jI rfl⟩ ?_ ?_ ?_
 iterate 2 simp only[go_sem]
 .intro m N f c hh hi K E;simp only[go_sem]at c;have z:f.get 5=an [aj a,bN p] 0:=by rw[hh.1 5 ai];simp only[go_sem]
  simp only[go_sem,c,hi,z,a'];refine E _ ?_ trivial ?_ ?_
  iterate 2 simp only[go_sem,c,hi]
  .simp only[go_sem];grind
 .rintro m N f hm c hh hi ⟨v,bp,D,h8⟩;simp only[go_sem]at c;obtain⟨t,x,g⟩:=gw hm;have z:f.get 5=an [aj a,bN p] 0:=by rw[hh.1 5 ai];simp only[go_sem]
  have bz:=ny (l:=p) (i:=(m:Int)) (k:=.i64) aa;have t1:=yp g;have t2:=ua g;have T:=GC a 0 W aa t.1 (ba t x);simp only[d_,fZ,bR,bk]at T;simp only[bk]at t1;obtain⟨el,am⟩:=ap t x;have I:=ek (aa:5<f.ag);have Z:=ek (aa:7<f.ag);simp only[go_sem,c,hi,z,bz,t1];refine use T ?_;simp only[go_sem,c,I,Z];simp only[ak 129 r4 2,ak 129 r4 1,ak 129 r4 0];refine uR a [1,2,3,6,7,8,9] [] f.ag (λj F H=>H.get f.ag=an [aj a,bN (jC a b t j)] 0/\f.ag<H.ag) ?_ aa ai ff (λm F F' H h e=>e) ⟨?_,?_⟩ ?_ ?_ ?_
  .simp only[go_sem]
  .simp only[go_sem];rfl
  .simp only[go_sem];omega
  .intro j O n d o A K E;simp only[go_sem,c,hi]at d;have J:n.get 5=an [aj a,bN p] 0:=by rw[o.1 5 aa];simp only[go_sem,I,z]
   simp only[go_sem,d,A,J];refine E _ ?_ trivial ?_ ?_
   iterate 2 simp only[go_sem,c,hi,d,A]
   .simp only[go_sem];grind
  .rintro j O n U d o A ⟨r,X⟩;simp only[go_sem,c,hi]at d;have J:n.get 5=an [aj a,bN p] 0:=by rw[o.1 5 aa];simp only[go_sem,I,z]
   have V:b[j]? =some (b.getD j []):=by rw[bT,c4 aa];rfl
   have rl:=jO (Ez a) V;have a7:=hq _ (fL V);have i1:=j8 (l:=t.2) (i:=(j:Int)) (k:=.i64) aa;have e1:=jc (l:=t.2) (i:=j) aa;have Y:=ast W a7 (t.2.getD j 0) (am j) (R t x j U) aa B.1 aa (c5 (ei _ aa) P) (c5 (iP (Nat.succ_le_succ (ei _ aa)) (Nat.succ_le_succ (eN _ B.2.2.2.1))) Q);have g:=Ug aa (hT t x j aa) (R t x j U _ (aJ _)) h1 B.1 B.1 P Q;simp only[d_,fZ]at Y g rl;simp(disch:=omega)only[go_sem,c,hi,d,A,J,r,iq,rl,bz,t2,i1,e1];refine use Y ?_;simp only[go_sem,d,r];refine use g ?_;simp only[go_sem,c,hi,d,A,r];exact⟨eC.set o (aJ _) _,by first|rfl|(simp only[go_sem];rfl),X⟩
  .rintro O n d o ⟨r,X⟩;simp only[go_sem,c,hi]at d;have M:n.get 7=an [aj a,v] 0:=by rw[o.1 7 aa];simp only[go_sem,Z,bp]
   have C:=hS m aa;have a3:p.getD m (0,[])=t:=by rw[bT,g];rfl
   have g:=hT t x a (aJ _);have w:=ash a Ak 1 K aa (mL a b p m) (jC a b t a) (C.exs aa) (g.exs aa) 1 wO C.q g.q aa (by have:=C.l;omega) (by have:=g.l;omega) (c5 (eN _ (by have:=C.l;have:=g.l;omega)) h6);have w:dm 62 [.agg [aj a,v],bR 1,d_ a (jC a b t a)] n λu H3=>u=d_ a (mL a b p (m+1))/\H3=n:=by
    rw[mL,a3];rcases D with rfl|⟨rfl,e⟩
    .exact w n
    .rw[e]at w⊢;exact C3 (.f3 (.agg (.f2 .mm .gK)) .mm .mm) (w n)
   simp only[d_,fZ,bR,bk]at w;simp only[go_sem,d,M,r];refine use G ?_;simp only[go_sem,d,M,r];refine w.mono ?_;rintro _ _ ⟨rfl,rfl⟩;simp only[go_sem,c,hi,d,M];refine⟨⟨λy hy=>?_,by show 7<=ah.ag _;simp only[go_sem];omega⟩,bN (mL a b p (m+1)),rfl,.inl rfl,aa⟩;rw[ah.aT,ao aa,o.1 y aa,ah.aT,ao aa];simp only[go_sem,ek (aa:y<f.ag)];rw[hh.1 y hy];simp only[go_sem]
 .rintro N f c hh ⟨v,bp,D,h8⟩;simp only[go_sem]at c;have ar:f.get 6=an [aj 0,.aA] 0:=by rw[hh.1 6 ai];simp only[go_sem]
  have ho:v.one=true:=by rcases D with rfl|⟨rfl,_⟩<;>rfl
  simp only[go_sem,ak 129 r4 6,jm r4,c,ar,bp,ho];rcases D with rfl|⟨rfl,e⟩
  .exact⟨_,.same _,kA a _,rfl⟩
  .refine⟨_,.agg (.f2 .mm .gK),kA a [],?_⟩;rw[e];rfl
end
def iV:av->List av
 |[]=>[[]]
 |d::D=>(kZ (d+1)).flatMap λk=>(iV D).map (k:: ·)
def fm:av->av
 |[]=>[]
 |_::D=>pr D::fm D
def nL(n:Nat)(D:av):Prop:=D.length=n/\∀d∈D,d<=2
def v5(j:d=1\/d=2){P:av->Prop}(i:P [0]/\P [1]/\P [2])(c:(P [0,0]/\P [0,1]/\P [0,2])/\(P [1,0]/\P [1,1]/\P [1,2])/\P [2,0]/\P [2,1]/\P [2,2])(h:nL d g):P g:=by
 obtain⟨hl,e⟩:=h;have v:∀f,f<=2->f=0\/f=1\/f=2:=λf h=>aa
 match g,hl,e with
 |[],hl,_=>exact absurd hl e7
 |[a],_,e=>rcases v a (e a aI)with rfl|rfl|rfl;exact i.1;exact i.2.1;exact i.2.2
 |[a,b],_,e=>
  rcases v a (e a aI)with rfl|rfl|rfl<;>rcases v b (e b aI)with rfl|rfl|rfl
  .exact c.1.1
  .exact c.1.2.1
  .exact c.1.2.2
  .exact c.2.1.1
  .exact c.2.1.2.1
  .exact c.2.1.2.2
  .exact c.2.2.1
  .exact c.2.2.2.1
  .exact c.2.2.2.2
 |_::_::_::_,hl,_=>exact absurd hl e7
def mX(e:av):au:=[bf e]
def amz:ec 5 ef 130 [bf [0]] (bE mX (iV [0]))=true:=ep
def amD:ec 5 ef 130 [bf [1]] (bE mX (iV [1]))=true:=ep
def amH:ec 5 ef 130 [bf [2]] (bE mX (iV [2]))=true:=ep
def amA:ec 5 ef 130 [bf [0,0]] (bE mX (iV [0,0]))=true:=ep
def amB:ec 5 ef 130 [bf [0,1]] (bE mX (iV [0,1]))=true:=ep
def amC:ec 5 ef 130 [bf [0,2]] (bE mX (iV [0,2]))=true:=ep
def amE:ec 5 ef 130 [bf [1,0]] (bE mX (iV [1,0]))=true:=ep
def amF:ec 5 ef 130 [bf [1,1]] (bE mX (iV [1,1]))=true:=ep
def amG:ec 5 ef 130 [bf [1,2]] (bE mX (iV [1,2]))=true:=ep
def amI:ec 5 ef 130 [bf [2,0]] (bE mX (iV [2,0]))=true:=ep
def amJ:ec 5 ef 130 [bf [2,1]] (bE mX (iV [2,1]))=true:=ep
def amK:ec 5 ef 130 [bf [2,2]] (bE mX (iV [2,2]))=true:=ep
def ame(b:a=1\/a=2)(h:nL a g):bm 130 [bf g] (bE mX (iV g)):=v5 b (P:=λg=>bm 130 [bf g] (bE mX (iV g))) ⟨eo eg amz,eo eg amD,eo eg amH⟩ ⟨⟨eo eg amA,eo eg amB,eo eg amC⟩,⟨eo eg amE,eo eg amF,eo eg amG⟩,eo eg amI,eo eg amJ,eo eg amK⟩ h
def X0:ec 5 ef 337 [bf [0]] (.aH [aj (pr [0]:Nat),cY])=true:=ep
def X4:ec 5 ef 337 [bf [1]] (.aH [aj (pr [1]:Nat),cY])=true:=ep
def X8:ec 5 ef 337 [bf [2]] (.aH [aj (pr [2]:Nat),cY])=true:=ep
def X1:ec 5 ef 337 [bf [0,0]] (.aH [aj (pr [0,0]:Nat),cY])=true:=ep
def X2:ec 5 ef 337 [bf [0,1]] (.aH [aj (pr [0,1]:Nat),cY])=true:=ep
def X3:ec 5 ef 337 [bf [0,2]] (.aH [aj (pr [0,2]:Nat),cY])=true:=ep
def X5:ec 5 ef 337 [bf [1,0]] (.aH [aj (pr [1,0]:Nat),cY])=true:=ep
def X6:ec 5 ef 337 [bf [1,1]] (.aH [aj (pr [1,1]:Nat),cY])=true:=ep
def X7:ec 5 ef 337 [bf [1,2]] (.aH [aj (pr [1,2]:Nat),cY])=true:=ep
def X9:ec 5 ef 337 [bf [2,0]] (.aH [aj (pr [2,0]:Nat),cY])=true:=ep
def X_:ec 5 ef 337 [bf [2,1]] (.aH [aj (pr [2,1]:Nat),cY])=true:=ep
def Ya:ec 5 ef 337 [bf [2,2]] (.aH [aj (pr [2,2]:Nat),cY])=true:=ep
def GG(b:a=1\/a=2)(h:nL a g):bm 337 [bf g] (.aH [aj (pr g:Nat),cY]):=v5 b (P:=λg=>bm 337 [bf g] (.aH [aj (pr g:Nat),cY])) ⟨eo eg X0,eo eg X4,eo eg X8⟩ ⟨⟨eo eg X1,eo eg X2,eo eg X3⟩,⟨eo eg X5,eo eg X6,eo eg X7⟩,eo eg X9,eo eg X_,eo eg Ya⟩ h
def auM:ec 5 ef 339 [bf [0]] (bf (fm [0]))=true:=ep
def auQ:ec 5 ef 339 [bf [1]] (bf (fm [1]))=true:=ep
def auU:ec 5 ef 339 [bf [2]] (bf (fm [2]))=true:=ep
def auN:ec 5 ef 339 [bf [0,0]] (bf (fm [0,0]))=true:=ep
def auO:ec 5 ef 339 [bf [0,1]] (bf (fm [0,1]))=true:=ep
def auP:ec 5 ef 339 [bf [0,2]] (bf (fm [0,2]))=true:=ep
def auR:ec 5 ef 339 [bf [1,0]] (bf (fm [1,0]))=true:=ep
def auS:ec 5 ef 339 [bf [1,1]] (bf (fm [1,1]))=true:=ep
def auT:ec 5 ef 339 [bf [1,2]] (bf (fm [1,2]))=true:=ep
def auV:ec 5 ef 339 [bf [2,0]] (bf (fm [2,0]))=true:=ep
def auW:ec 5 ef 339 [bf [2,1]] (bf (fm [2,1]))=true:=ep
def auX:ec 5 ef 339 [bf [2,2]] (bf (fm [2,2]))=true:=ep
def T_(b:a=1\/a=2)(h:nL a g):bm 339 [bf g] (bf (fm g)):=v5 b (P:=λg=>bm 339 [bf g] (bf (fm g))) ⟨eo eg auM,eo eg auQ,eo eg auU⟩ ⟨⟨eo eg auN,eo eg auO,eo eg auP⟩,⟨eo eg auR,eo eg auS,eo eg auT⟩,eo eg auV,eo eg auW,eo eg auX⟩ h
def yR(a e:Nat):Nat:=if a=2/\e=1 then 2 else 1
def jN(k:Nat):V:=.agg [aR,mag [k],aR,mag []]
theorem HM{k:Nat}(h:0<k/\k<4294967296):aU k=[k]:=by grind [qf,jR,mw,kz]
theorem arb{k:Nat}(h:0<k/\k<4294967296):jN k=bR (k:Rat):=by
 unfold jN bR bk
 grind [Rat.num_natCast,nZ,Rat.den_natCast,eU,HM,kz,bP]
def ER(a b:Nat):V:=if a=b then jN 1 else .agg [aR,mag [1],aR,mag [2]]
def Wi:ec 5 ef 132 [aj 0,aj 0] (jN (yR 0 0))=true:=ep
def Wj:ec 5 ef 132 [aj 1,aj 0] (jN (yR 1 0))=true:=ep
def Wk:ec 5 ef 132 [aj 1,aj 1] (jN (yR 1 1))=true:=ep
def Wl:ec 5 ef 132 [aj 2,aj 0] (jN (yR 2 0))=true:=ep
def Wm:ec 5 ef 132 [aj 2,aj 1] (jN (yR 2 1))=true:=ep
def Wn:ec 5 ef 132 [aj 2,aj 2] (jN (yR 2 2))=true:=ep
def asZ:ec 5 ef 131 [jN 1,jN 1] (ER 1 1)=true:=ep
def as0:ec 5 ef 131 [jN 1,jN 2] (ER 1 2)=true:=ep
def as1:ec 5 ef 131 [jN 2,jN 2] (ER 2 2)=true:=ep
section
set_option maxRecDepth 100000
attribute [local irreducible] rd kc ex bD bB re rg mv bJ pick alloc box bi bs ba be fd bG st fa bz bY cv cn cw cT cS ms cr cK cJ cB mx mn cA ap cF bQ cC cD bU cE ext cO neg Go.ax.not cL cI cN cM cR cP cG cQ cy cx u8
def kC(m:Rat)(l:List Rat):Rat:=l.foldl (λm c=>if e6 (c-m)<0 then c else m) m
def mb(m:Rat)(l:List Rat):Rat:=l.foldl (λm c=>if 0<e6 (c-m)then c else m) m
def DO{e:Type}(c:e->f->e)(b:e){l:List f}{a:f}(h:l[d]? =some a):(l.take (d+1)).foldl c b=c ((l.take d).foldl c b) a:=by rw[vq h,List.foldl_append];rfl
theorem Im{P:f->Prop}(c:f->f->f)(d:∀a b,c a b=a\/c a b=b):∀(l:List f) (b:f),P b->(∀x∈l,P x)->P (l.foldl c b)
 |[],_,h,_=>h
 |x::l,b,h,hl=>Im c d l _ b4 λy e=>hl y (by simp[e])
def Em{P:Rat->Prop}(l:List Rat)(b:Rat)(h:P b)(hl:∀x∈l,P x):P (kC b l):=Im _ (λa b=>by(try dsimp only);split<;>simp) l b h hl
def Sq{P:Rat->Prop}(l:List Rat)(b:Rat)(h:P b)(hl:∀x∈l,P x):P (mb b l):=Im _ (λa b=>by(try dsimp only);split<;>simp) l b h hl
theorem Sm:∀(l:List Rat) (b:Rat),kC b l<=b/\∀x∈l,kC b l<=x
 |[],b=>⟨qS,λ_ h=>by cases h⟩
 |c::l,b=>by
  have e:kC b (c::l)=kC (if e6 (c-b)<0 then c else b) l:=rfl;have⟨d,a⟩:=Sm l (if e6 (c-b)<0 then c else b);rw[e];have f:(if e6 (c-b)<0 then c else b)<=b/\(if e6 (c-b)<0 then c else b)<=c:=by
   split
   .rename_i h;refine⟨?_,qS⟩;rcases(by grind:b<c\/c<=b)with h'|h'
    .rw[EX h']at h;omega
    .exact h'
   .rename_i h;refine⟨qS,?_⟩;rcases(by grind:c<b\/b<=c)with h'|h'
    .rw[yf h']at h;omega
    .exact h'
  refine⟨by grind,λx hx=>?_⟩;rcases jr.1 hx with rfl|hx
  .grind
  .exact a x hx
def q_(a b:Rat):au:=bk a++bk b
def asl(q:Rat):bm 127 [bR q] (.agg (q_ q q)):=by refine nF (.f1 (ij q)) (eM Tryz.f127 (h:=?_));simp only[go_sem,bR,bk,q_,gv,fS];exact⟨_,.same _,.agg (l5 (mE q) (mE q)),rfl⟩
def asW(j bC:V)(v:bA j/\j.one=true)(w:bA bC/\bC.one=true)(c:Rat)(l:List Rat)(hl:af l<=1000){k:Nat}(g:∀x∈c::l,aM k x)(e:k<=1000000):
 bm 75 [.agg [j,bC,bE bk (c::l)]] (.agg (q_ (kC c (c::l)) (mb c (c::l)))):=by
 have z:=asl c;simp only[bR,bk,q_]at z;have L:af (c::l)<=1001:=by rw[dZ];omega
 refine nF (.f1 (.agg (.f3 v.1 w.1 (hH mE _)))) (lX Tryz.f75 (h:=?_));have i:=jO wP (show(c::l)[0]? =some c from rfl);have B:dO none 4 [bE bk (c::l),aj 0]=some (.val (.dY (c3 bk (c::l)) 0)):=rfl;have i:cW (c3 bk (c::l)) 4=some [.bool (decide (c.num<0)),mag (aU c.num.natAbs),aR,mag (aU (dd c))]:=by rw[j4,dQ]at i;exact i
 obtain⟨d,u⟩:∃d,d=c::l:=⟨_,rfl⟩;rw[<-u]at i B L g⊢;have C:aM k c:=g c (by rw[u];exact uy ..);have N:di (bE bk d)=some (.val (aj (af d))):=rfl;simp only[go_sem,aV 75 Tryz.f75,ak 75 Tryz.f75 6,ak 75 Tryz.f75 5,v.2,w.2,B,i];refine use z ?_;simp only[go_sem,gv,fS,N];simp only[ak 75 Tryz.f75 3,ak 75 Tryz.f75 2,ak 75 Tryz.f75 1,ak 75 Tryz.f75 0];refine each (af d) [1,2,3,12,13] 7 (λm F H=>H.get 7=an (q_ (kC c (d.take m)) (mb c (d.take m))) 0/\8<=H.ag) ?_ ?_ aa ai (jI rfl) (λ_ _ _ _ _ _ h=>h) ⟨?_,?_⟩ ?_ ?_
 iterate 2 simp only[go_sem]
 .simp only[go_sem];rfl
 .simp only[go_sem];exact jI rfl
 .rintro m E f M e hh hi ⟨bp,K⟩;simp only[go_sem]at e;obtain⟨x,A,n⟩:=gw M;have D:=jO wP n;have bz:=iq (f:=bk) (k:=4) (l:=d) (i:=(m:Int)) (ik:=.i64) aa;have s:=DO (λm c=>if e6 (c-m)<0 then c else m) c n;have t:=DO (λm c=>if 0<e6 (c-m)then c else m) c n;have O:aM k (kC c (d.take m)):=Em _ c C λy o=>g y (oD o)
  have P:aM k (mb c (d.take m)):=Sq _ c C λy o=>g y (oD o)
  have q:=BM x _ (g x A) O aa;have r:=BM x _ (g x A) P aa;change kC c (d.take (m+1))=if e6 (x-kC c (d.take m))<0 then x else kC c (d.take m)at s
  change mb c (d.take (m+1))=if 0<e6 (x-mb c (d.take m))then x else mb c (d.take m)at t
  rw[s,t];generalize kC c (d.take m)=a at*
  generalize mb c (d.take m)=b at*
  have p:=ek (aa:7<f.ag);simp only[bR,bk]at q r D;simp only[q_,bk,gv,fS]at bp;simp(disch:=omega)only[go_sem,e,hi,bz,D,p,bp];refine use q ?_;by_cases G:e6 (x-a)<0<;>by_cases I:0<e6 (x-b)<;>simp only[go_sem,e,hi,bp,p,G]<;>refine use r ?_<;>simp only[go_sem,e,hi,bp,p,I,q_,bk,gv,fS]
  all_goals refine⟨?_,aa⟩
  all_goals first|exact(((hh.push _).set (aa:7<=f.ag) _).set (aJ 7) _).set (aJ 7) _|exact((hh.push _).set (aa:7<=f.ag) _).set (aJ 7) _|exact(hh.push _).set (aa:7<=f.ag) _
 .rintro E f e hh ⟨bp,K⟩;simp only[go_sem]at e;have J:f.get 6=an [aR,.aA,aR,.aA,aR,.aA,aR,.aA] 0:=by rw[hh.1 6 ai];simp only[go_sem]
  rw[qM]at bp;simp only[q_,bk,gv,fS]at bp;simp only[go_sem,ak 75 Tryz.f75 4,jm Tryz.f75,e,J,bp];exact⟨_,.same _,.agg (l5 (mE _) (mE _)),rfl⟩
variable{O:Nat}{J:aS}
def y_{l:Nat}{o:BinOp}{T:List dW}{R:b5}(i:Nat)(z:Nat->Int)(L M:av)(B:Nat)(E:Nat->cm)
 (hi:rd a j=aj (z 0)) (V:∀c,c<i->ga (gp o) [aj (z c),aj 1]=some (.val (aj (z (c+1))))) (G:a∉L/\m∉L/\D∉L/\a≠m/\a≠D/\a∉M/\m∉M/\D∉M) (F:B<=b.ag) (s:∀c j v b,gG M v j->E c j b->E c v b) (A:E 0 j b)
 (ac:∀(c:Nat) e f,c<=i->gG L e j->eC B b f->rd a e=aj (z c)->E c e f->∀K:cm,(∀g,gG L g j->gG M g e->rd a g=aj (z c)->rd d g=.bool (decide (c<i))->K g f)->k5 e9 5 T K e f)
 (step:∀(c:Nat) e f,c<i->gG L e j->eC B b f->rd a e=aj (z c)->E c e f->bK J (hD l (λx g p=>match x with|.norm=>gG L g j/\eC B b p/\rd a g=aj (z c)/\E (c+1) g p|x=>hD O R x g p)) e f)
 (C:∀e f,gG L e j->eC B b f->E i e f->R .norm e f):
 bK (.loop (.seq (.seq (.c7 T) (.cond (rd d) .skip (.exit O))) (.seq (.block l J) (.c7 [ex m (mv (rd a)),ex D (bi o (rd m) (kc (aj 1))),ex a (bJ (rd D))])))) (hD O R) j b:=by
 obtain⟨H,I,N,d1,d2,Y,Z,ab⟩:=G;refine b8 (λr e f=>∃c,r=i-c/\c<=i/\gG L e j/\eC B b f/\rd a e=aj (z c)/\E c e f) i ⟨0,rfl,cj _,rG.2 λ_ _=>rfl,.refl F,hi,A⟩ ?_;rintro r e f ⟨c,rfl,Q,P,hh,S,t⟩;simp only[go_sem];refine ac c e f Q P hh S t _ λg w y U k=>?_
 by_cases h:c<i
 .rw[b3 h]at k;simp only[go_sem,k];refine Go.ax.wp_mono J (λx n q=>CW (λx n q u=>?_) x n q) (step c g f h w hh U (s _ _ _ _ y t));cases x with
  |norm=>obtain⟨W,l,bX,X⟩:=u;show bK (.c7 _) _ n q;simp only[go_sem,bX,V c h];exact⟨i-(c+1),aa,c+1,rfl,h,o4 H (o4 N (o4 I W)),l,by simp only[go_sem],s _ _ _ _ (o4 Y (o4 ab (o4 Z (rG.2 λ_ _=>rfl)))) X⟩
  |ret=>exact u
  |exit D=>exact u
 .rw[bP h]at k;have D:c=i:=aa;subst D;simp only[go_sem,k];exact C _ _ w hh (s _ _ _ _ y t)
def ic(N:Nat)(T:Nat->Rat):au:=(kZ N).map λi=>.str (aO (T i))
theorem Gy(N:Nat)(T:Nat->Rat):af (ic N T)=N:=by unfold ic;rw[gD,rT]
def XB(T:Nat->Rat)(h:d<a):dw (ic a T) d=some (.str (aO (T d))):=by unfold ic;rw[iu,hY,p4 h];rfl
theorem MS(N i:Nat)(T:Nat->Rat)(q:Rat):(ic N T).set i (.str (aO q))=ic N (fR T i q):=by
 refine oC λj=>?_
 unfold ic;rw[rS,hY,hY,gD,rT];by_cases a:j<N
 .rw[p4 a];by_cases e:i=j
  .subst e;rw[ay rfl,ay a];show _=some (V.str (aO (fR T i q i)));unfold fR;rw[ay rfl]
  .rw[ao e];show _=some (V.str (aO (fR T i q j)));unfold fR;rw[ao (Ne.symm e)];rfl
 .rw[lA (by rw[rT];omega)];by_cases e:i=j
  .subst e;rw[ay rfl,ao a];rfl
  .rw[ao e];rfl
def lJ(b N f s d:Nat):au:=[.slice b 0 N (.known N),aj f,aj s,aj d]
def akY(b N f s d k:Nat)(T:Nat->Rat)(H:ah)(e:H.get b=an (ic N T) 0)(g:b<H.ag)(h:f+k*s<N)(b_:N<=100000/\k<=1000/\s<=1000):dm 384 [.agg (lJ b N f s d),aj k] H λv a=>v=.str (aO (T (f+k*s)))/\a=H.push (an (lJ b N f s d) 0):=by
 have m:k*s<=1000*1000:=iP b_.2.1 b_.2.2;have j:aE .i64 ((k:Int)*(s:Int))=((k*s:Nat):Int):=by rw[<-fF];exact aK _ aa
 have l:aE .i64 ((f:Int)+((k*s:Nat):Int))=((f+k*s:Nat):Int):=by rw[<-Int.natCast_add];exact aK _ aa
 have bz:dO none 1 [.slice b 0 N (.known N),aj (f+k*s:Nat)]=some (.val (.ptr b (0+((f+k*s:Nat):Int).toNat*1))):=cH aa;have i:=ek g;have c:=XB T h;refine eM Tryz.f384 (h:=?_);simp only[go_sem,lJ,j,l,bz,i,e,c]
def atX(b N f s d k:Nat)(T:Nat->Rat)(q:Rat)(H:ah)(c:H.get b=an (ic N T) 0)(e:b<H.ag)(g:f+k*s<N)(b_:N<=100000/\k<=1000/\s<=1000):dm 383 [.agg (lJ b N f s d),aj k,.str (aO q)] H λ_ a=>a=(H.push (an (lJ b N f s d) 0)).set b (an (ic N (fR T (f+k*s) q)) 0):=by
 have m:k*s<=1000*1000:=iP b_.2.1 b_.2.2;have j:aE .i64 ((k:Int)*(s:Int))=((k*s:Nat):Int):=by rw[<-fF];exact aK _ aa
 have l:aE .i64 ((f:Int)+((k*s:Nat):Int))=((f+k*s:Nat):Int):=by rw[<-Int.natCast_add];exact aK _ aa
 have bz:dO none 1 [.slice b 0 N (.known N),aj (f+k*s:Nat)]=some (.val (.ptr b (0+((f+k*s:Nat):Int).toNat*1))):=cH aa;have h:=ek e;have i:dj [.str (aO q)] (ic N T) (f+k*s)=some (ic N (fR T (f+k*s) q)):=by rw[fE (by rw[Gy];exact g),MS]
 refine eM Tryz.f383 (h:=?_);simp only[go_sem,lJ,j,l,bz,h,c,i]
def EF(a:0<h.num):(h⁻¹).num=h.den/\((h⁻¹).den:Int)=h.num:=by rw[show h⁻¹=Rat.inv h from rfl];unfold Rat.inv;rw[dif_neg aa,dif_pos a];exact⟨rfl,by show((h.num.natAbs:Nat):Int)=_;omega⟩
def asM(q:Rat)(h:0<q.num):bm 405 [cZ q] (cZ q⁻¹):=by obtain⟨d,e⟩:=EF h;have a:=UX q.num;have c:=BI q;have b:=EC q⁻¹;rw[d,e]at b;rw[Int.sign_eq_one_of_pos h]at a;simp only[cZ,cc,ck,dK]at a c b;refine nF (.f1 (ig q)) (eM Tryz.f405 (h:=?_));simp only[go_sem,cZ,cc];refine use a ?_;simp only[go_sem];refine use c ?_;simp only[go_sem];refine use b ?_;simp only[go_sem];exact⟨_,.same _,ig _,rfl⟩
def asL(p q:Rat){a:Nat}(g:aM a p)(e:aM d q)(h:0<q.num)(f:a+d<=1900):cU 401 [cZ p,cZ q] (cZ (p/q)):=by obtain⟨i,j⟩:=EF h;have hi:aM d q⁻¹:=⟨by rw[i,eU];exact e.den,by have:=e.num;omega⟩;have c:=asM q h;have b:=Td p q⁻¹ g hi f;rw[<-Rat.div_def]at b;simp only[cZ,cc]at c b;refine dg (.f2 (ig p) (ig q)) (eM Tryz.f401 (h:=?_));simp only[go_sem,cZ,cc];refine use c ?_;simp only[go_sem];refine bq b bH ?_;simp only[go_sem];exact bO bH rfl (ig _)
def aiX(s t:aW)(D:af s<=500)(E:af t<=500){a b:Nat}(i:aM a (rv s))(f:aM b (rv t))(c:0<(rv t).num)(z:a+b<=1900):cU 385 [.str s,.str t] (.aH [.str (aO (rv s/rv t)),cY]):=by
 refine dg (.f2 .ss .ss) (eM Tryz.f385 (h:=?_));have d:=B1 s t aa aa;have e:bA (.aH [.str (aO (rv s/rv t)),cY]):=.aH (.f2 .ss .bb);simp only[go_sem];have K:qz s t=.aH [.agg [aj 0,aj 0],.agg [aj 0,aj 0],aR]\/∃p q,gT s=some p/\gT t=some q:=by
  cases x:gT s with
  |none=>exact .inl (tT (.inl x))
  |some p=>
   cases y:gT t with
   |none=>exact .inl (tT (.inr y))
   |some q=>exact .inr ⟨p,q,rfl,rfl⟩
 rcases K with B|⟨p,q,l,m⟩
 .rw[B]at d;have u:=ue s D;have v:=ue t E;have g:=D3 (rv t);rw[bP aa]at g;have k:=asL (rv s) (rv t) i f c z;have n:=BJ (rv s/rv t) (k:=a+b) (by rw[Rat.div_def];obtain⟨h,o⟩:=EF c;exact i.mul ⟨by rw[h,eU];exact f.den,by have:=f.num;omega⟩) aa
  simp only[cZ,cc]at u v g k n;refine use d ?_;simp only[go_sem];refine bq v bH ?_;simp only[go_sem];refine use g ?_;simp only[go_sem];refine bq u bH ?_;simp only[go_sem];refine bq k bH ?_;simp only[go_sem];refine bq n bH ?_;simp only[go_sem];exact bO bH rfl e
 .obtain⟨F,G,H⟩:=sH l;obtain⟨r,I,J⟩:=sH m;rw[BY l m]at d;rw[oq F,oq r]at e⊢;rw[oq r]at c;have N:=mZ (a:=p.num) (b:=(q.den:Int)) G (by rw[eU];exact J);have O:=mZ (a:=(p.den:Int)) (b:=q.num) (by rw[eU];exact H) I;have L:aE .i64 (p.num*(q.den:Int))=p.num*(q.den:Int):=aK _ aa;have M:aE .i64 ((p.den:Int)*q.num)=(p.den:Int)*q.num:=aK _ aa;have A:¬q.num=0:=aa;have P:0<(p.den:Int)*q.num:=Int.mul_pos (by have:=p.den_nz;omega) c;have j:=DN (p.num*(q.den:Int)) ((p.den:Int)*q.num) aa aa;have C:mkRat (p.num*(q.den:Int)) ((p.den:Int)*q.num).toNat=p/q:=by
   obtain⟨h,o⟩:=EF c;have w:((p.den:Int)*q.num).toNat=p.den*(q⁻¹).den:=by rw[<-o,<-fF];exact cg _
   rw[w,<-h,Rat.div_def,Bq]
  rw[C]at j;refine use d ?_;simp only[go_sem,A,L,M];refine bq j bH ?_;simp only[go_sem];exact bO bH rfl e
def hO(b:Nat)(H a:ah):Prop:=(∀y,y<H.ag->y≠b->a.get y=H.get y)/\H.ag<=a.ag
theorem hO.refl(b:Nat)(H:ah):hO b H H:=⟨λ_ _ _=>rfl,aJ _⟩
def hO.trans{b:Nat}{a c:ah}(h:hO b I a)(d:hO b a c):hO b I c:=⟨λy f e=>(d.1 y (fy f h.2) e).trans (h.1 y f e),c5 h.2 d.2⟩
def hO.push(b:Nat)(H:ah)(o:dU):hO b H (H.push o):=⟨λy a _=>by rw[ah.bl,ao aa],s9 _⟩
def hO.set(h:hO a b I)(o:dU):hO a b (I.set a o):=⟨λy c e=>by rw[ah.aT,ao (Ne.symm e)];exact h.1 y c e,h.2⟩
def hO.gt(h:hO a b I)(g:GT b)(c:5<=b.ag)(d:5<=a):GT I:=g.keep λy e=>h.1 y aa aa
def zv:eC 0 b I:=⟨λ_ h=>absurd h (nP _),cj _⟩
def ql(T:Nat->Rat)(f s d:Nat)(y:Nat->Rat):Nat->Rat:=λj=>if j=f then y 0 else if 1<=d/\j=f+1*s then y 1 else if 2<=d/\j=f+2*s then y 2 else T j
structure mu (b N f s d:Nat) (T y:Nat->Rat) (H:ah):Prop where
 g:H.get b=an (ic N (ql T f s d y)) 0
 n:b<H.ag
structure qN (N f s d:Nat):Prop where
 hn:N<=100000
 hd:d<=2
 hs:0<s/\s<=1000
 hf:f+d*s<N
variable{L:Nat->Rat}
def ap7{y:Nat->Rat}(e:0<d)(c:m<=2)(b:D<=m):ql L a d m y (a+D*d)=y D:=by
 unfold ql;rcases(by omega:D=0\/D=1\/D=2)with rfl|rfl|rfl
 .rw[ay aa]
 .rw[ao aa,ay ⟨b,rfl⟩]
 .rw[ao aa,ao aa,ay ⟨b,rfl⟩]
theorem ap8{y:Nat->Rat}(q:Rat)(e:0<d)(b:m<=2)(c:D<=m):fR (ql L a d m y) (a+D*d) q=ql L a d m (fR y D q):=by funext j;unfold ql fR;rcases(by omega:D=0\/D=1\/D=2)with rfl|rfl|rfl<;>grind
def qN.kk{k:Nat}(h:qN a d m D)(b:k<=D):d+k*m<a/\(a<=100000/\k<=1000/\m<=1000):=by have:=ei m b;have:=h.hf;have:=h.hd;exact⟨aa,h.hn,aa,h.hs.2⟩
def zk{y:Nat->Rat}(h:mu a d m D O L y b)(c:qN d m D O){k:Nat}(i:k<=O):dm 384 [.agg (lJ a d m D O),aj k] b λv e=>v=.str (aO (y k))/\mu a d m D O L y e/\hO a b e:=dD.mono (λv e ⟨j,f⟩=>⟨by rw[j,ap7 c.hs.1 c.hd i],⟨by rw[f,ah.bl,ao (Nat.ne_of_gt h.n)];exact h.g,by rw[f];exact xh h.n⟩,by rw[f];exact .push a b _⟩) (akY a d m D O k _ b h.g h.n (c.kk i).1 (c.kk i).2)
def EV{y:Nat->Rat}(h:mu a d m D O L y b)(c:qN d m D O){k:Nat}(i:k<=O)(q:Rat):dm 383 [.agg (lJ a d m D O),aj k,.str (aO q)] b λ_ f=>mu a d m D O L (fR y k q) f/\hO a b f:=dD.mono (λv f e=>⟨⟨by rw[e,ah.aT,ay rfl,ap8 q c.hs.1 c.hd i],by rw[e];exact xh h.n⟩,by rw[e];exact(hO.push a b _).set _⟩) (atX a d m D O k _ q b h.g h.n (c.kk i).1 (c.kk i).2)
theorem rK(a:aM 240 h):af (aO h)<=500:=by
 have d:=y5 a.num;have e:=y5 a.den;unfold aO;rw[bw,bw];have b:af (if h.num<0 then [(45:UInt8)]else [])<=1:=by split<;>simp
 have c:af (if h.den=1 then []else(47:UInt8)::dec h.den)<=242:=by
  split
  .simp
  .rw[dZ];omega
 omega
def La{q:Rat}(a:aM 240 h)(b:aM 240 q):cU 59 [.str (aO h),.str (aO q)] (.str (aO (h+q))):=by have:=Vu (aO h) (aO q) (rK a) (rK b) (a:=240) (b:=240) (by rw[eT];exact a) (by rw[eT];exact b) ai;rwa[eT,eT]at this
def IZ{q:Rat}(a:aM 240 h)(b:aM 240 q):cU 58 [.str (aO h),.str (aO q)] (.str (aO (h*q))):=by have:=aq1 (aO h) (aO q) (rK a) (rK b) (a:=240) (b:=240) (by rw[eT];exact a) (by rw[eT];exact b) ai;rwa[eT,eT]at this
def avO(q:Rat):(aO q=[48])↔q=0:=⟨λh=>by rw[<-eT q,h,<-avU,eT],λh=>by rw[h];rfl⟩
structure oF (b N f s d x:Nat) (T y:Nat->Rat) (H:ah):Prop where
 hl:mu b N f s d T y H
 hx:H.get x=an (lJ b N f s d) 0
 hn:x<H.ag/\x≠b
 ht:GT H
 yQ:5<=b
def oF.fx{x:Nat}{y e:Nat->Rat}(h:oF a d m D O x L y b)(hl:mu a d m D O L e I)(c:hO a b I):oF a d m D O x L e I:=⟨hl,(c.1 x h.hn.1 h.hn.2).trans h.hx,⟨fy h.hn.1 c.2,h.hn.2⟩,c.gt h.ht (ja (fu h.yQ h.hl.n)) h.yQ,h.yQ⟩
theorem WX(b:Nat)(l:au):oL (.jZ b::l)=some (.jZ b,l):=rfl
theorem amx(D:av)(O:0<D.length/\D.length<=1000/\(∀i,D.getD i 0<=1000)/\pr D<=1000000)(b p:Nat)(J:Nat->ah->Prop)(H:ah)(hp:p<H.ag)
 (E:∀n c,J n c->c.get p=an [bf D] 0)
 (st:∀n c g,J n c->(∀y,y<H.ag->g.get y=c.get y)->H.ag<=g.ag->J n g) (M:J 0 H)
 (step:∀a A c,jn D a->H.ag<=A->A<c.ag->J (dR D a) c->c.get A=an (bL a) 0->dD e9 5 (.jZ b) [aj (dR D a:Nat),.slice A 0 D.length (.known D.length)] c λv g=>v=cY/\g.get A=an (bL a) 0/\c.ag<=g.ag/\J (dR D a+1) g):
 dm 400 [.jZ b,.ptr p 0] H λ_ c=>J (pr D) c:=by
 have W:di (bf D)=some (.val (aj D.length)):=rfl;have al:l_ 8 [aj 0] [aj D.length,aj D.length]=some (.new (rep [aj 0] D.length) (.slice D.length D.length)):=by rw[iG aa];simp
 have hz:rep [V.int .i64 0] D.length=bL (aZ D.length 0):=by
  generalize D.length=n
  induction n with
  |zero=>rfl
  |succ n ih=>show V.int .i64 0::rep [V.int .i64 0] n=_;rw[ih];rfl
 refine lX uJ (h:=?_);have q0:=E 0 H M;simp only[go_sem,aV 400 uJ,ak 400 uJ 6,ak 400 uJ 5,jm uJ,q0,W,al,hz];refine b8 (λr t c=>∃a,jn D a/\r=pr D-dR D a/\rd 0 t=.jZ b/\rd 1 t=.ptr p 0/\rd 3 t=.slice H.ag 0 D.length (.known D.length)/\rd 4 t=aj (dR D a:Nat)/\H.ag<c.ag/\c.get H.ag=an (bL a) 0/\J (dR D a) c) (pr D) ⟨aZ D.length 0,⟨ux ..,λi=>?_⟩,?_,?_,?_,?_,?_,?_,?_,?_⟩ ?_
 .grind
 .rw[BF];rfl
 iterate 3 simp only[go_sem]
 .simp only[go_sem,BF];rfl
 .simp only[go_sem];omega
 .simp only[go_sem]
 .rw[BF];exact st 0 H _ M (λy S=>by rw[ah.bl,ao aa]) (s9 _)
 rintro r t c ⟨a,f,rfl,u,h,l,w,am,s,d⟩;simp only[go_sem,ak 400 uJ 4,u,h,l,w,WX];refine dD.mono ?_ (step a H.ag c f (aJ _) am d s);rintro v g ⟨rfl,s,a',d⟩;have a2:=E _ _ d;have w1:aE .i64 ((D.length:Int)-1)=(D.length:Int)-1:=aK _ aa;have bb:=vh D a f;have bc:=O.2.2.2;simp only[go_sem,h,a2,W,w1];refine b8 (λr o q=>∃m,r=D.length-m/\m<=D.length/\rd 0 o=.jZ b/\rd 1 o=.ptr p 0/\rd 3 o=.slice H.ag 0 D.length (.known D.length)/\rd 4 o=aj (dR D a:Nat)/\rd 5 o=aj ((D.length:Int)-1-m)/\H.ag<q.ag/\q.get H.ag=an (bL (mG a D.length m)) 0/\J (dR D a+1) q/\∀j,D.length-m<=j->j<D.length->a.getD j 0=D.getD j 0) D.length ⟨0,rfl,cj _,?_,?_,?_,?_,?_,?_,?_,d,λj N B=>aa⟩ ?_
 iterate 4 simp only[go_sem,u,h,l,w]
 .simp only[go_sem];simp
 .omega
 .rw[show mG a D.length 0=a by unfold mG;rw[Nat.sub_zero,<-f.1,qM,qL,hU]];exact s
 rintro r o q ⟨m,rfl,hm,u,h,l,w,z,R,s,d,F⟩;have Z:=E _ _ d;simp only[go_sem,ak 400 uJ 2];by_cases a9:m=D.length
 .have a5:(D.length:Int)-1-m= -1:=aa;rw[a5]at z;have ha:=amj f λj d=>F j aa d
  have ad:dR D a+1=pr D:=by rw[ha];exact Jt D
  rw[ad]at d;simp(disch:=omega)only[go_sem,z,Int.reduceLT,Int.reduceNeg];exact d
 .obtain⟨k,Q⟩:∃k,D.length=m+k+1:=⟨D.length-m-1,aa⟩;have a6:(D.length:Int)-1-m=(k:Int):=aa;rw[a6]at z;have kl:k<D.length:=aa;have bM:(0:Int)<=(k:Int)/\(k:Int)<(D.length:Int):=aa;have L:((k:Int)<0)=False:=eq_false aa;have bd:af (mG a D.length m)=D.length:=amu f.1 hm;have X:dw (bL (mG a D.length m)) k=some (aj (a.getD k 0:Nat)):=by rw[jc aa,amt f.1 aa]
  have Y:dw (bL D) k=some (aj (D.getD k 0:Nat)):=jc kl;have T:dO none 1 [.slice H.ag 0 D.length (.known D.length),aj k]=some (.val (.ptr H.ag (0+(k:Int).toNat*1))):=cH bM;have U:=j8 (l:=D) (i:=(k:Int)) (k:=.i64) bM;have sp:∀x:Nat,dj [V.int .i64 (x:Int)] (bL (mG a D.length m)) k=some (bL ((mG a D.length m).set k x)):=λx=>by grind [fE,jz,D4]
  have a7:=O.2.2.1 k;have a8:=f.2 k;by_cases P:a.getD k 0=D.getD k 0
  .have C:(((a.getD k 0:Nat):Int)=((D.getD k 0:Nat):Int))=True:=eq_true aa;have I:=sp 0;rw[amw f.1 Q]at I;have K:aE .i64 ((k:Int)-1)=(k:Int)-1:=aK _ aa;simp only[kh]at I;simp only[go_sem,ak 400 uJ 1,ak 400 uJ 0,h,l,z,L,Z,s,X,Y,T,U,C,I,K];refine⟨D.length-(m+1),aa,m+1,rfl,aa,?_,?_,?_,?_,?_,?_,?_,?_,λj N B=>?_⟩
   iterate 4 simp only[go_sem,u,h,l,w]
   .simp only[go_sem];congr 1;omega
   .simp only[go_sem];exact R
   .simp only[go_sem]
   .exact st _ q _ d (λy S=>by rw[ah.aT,ao aa]) ff
   .by_cases e:j=k
    .rw[e];exact P
    .exact F j aa B
  .have C:(((a.getD k 0:Nat):Int)=((D.getD k 0:Nat):Int))=False:=eq_false aa;have K:aE .i64 (((a.getD k 0:Nat):Int)+1)=((a.getD k 0+1:Nat):Int):=by rw[aK _ aa];omega
   have w3:aE .i64 (((dR D a:Nat):Int)+1)=((dR D a+1:Nat):Int):=by rw[aK _ aa];omega
   obtain⟨n1,G⟩:=amv f rfl Q (λj N B=>F j aa B) P;simp only[go_sem,ak 400 uJ 3,h,l,w,z,L,Z,s,X,Y,T,U,C,K,w3,sp];refine⟨pr D-(dR D a+1),aa,(mG a D.length m).set k (a.getD k 0+1),n1,by rw[G],?_,?_,?_,?_,?_,?_,?_⟩
   iterate 4 simp only[go_sem,u,h,l,G]
   .simp only[go_sem];exact R
   .simp only[go_sem]
   .rw[G];exact st _ q _ d (λy S=>by rw[ah.aT,ao aa]) ff
section
theorem ap6{y b:Nat->Rat}(h:∀k,k<=D->y k=b k):ql L a m D y=ql L a m D b:=by
 funext j;unfold ql
 grind
def mu.congr{d:Nat}{y c:Nat->Rat}(hl:mu a m D O d L y I)(h:∀k,k<=d->y k=c k):mu a m D O d L c I:=⟨by rw[<-ap6 h];exact hl.g,hl.n⟩
theorem PB{p q:Prop}[Decidable p][Decidable q](h:¬p↔q):(!decide p)=decide q:=b4
variable{q:Int}
def PS{a:Int}(h: -10<=a/\a<=10)(e:q=a-1):ga (gp .sub) [aj a,aj 1]=some (.val (aj q)):=by have c:ga (gp .sub) [aj a,aj 1]=some (.val (aj (aE .i64 (a-1)))):=rfl;rw[c,aK _ aa,e]
def Fo{a:Int}(h: -10<=a/\a<=10)(e:q=a+1):ga (gp .add) [aj a,aj 1]=some (.val (aj q)):=by have c:ga (gp .add) [aj a,aj 1]=some (.val (aj (aE .i64 (a+1)))):=rfl;rw[c,aK _ aa,e]
section
variable {b N f s d x:Nat}{T y:Nat->Rat}{c:Rat}{F:Fr}{H:ah}{R:b5}
theorem l4:cW (lJ b N f s d) 4=some (lJ b N f s d):=rfl
theorem l3:dw (lJ b N f s d) 3=some (aj d):=rfl
theorem at0{i:Nat}(q:qN N f s d)(hi:i<d)(a:oF b N f s d x T y H)(o:rd 1 F=.str (aO c))(n:rd 2 F=.ptr x 0)(t:rd 4 F=aj i)(G:rd 5 F=aj ((d:Int)-1))
 (L:∀m,m<d-i->aM 240 c/\aM 240 (gM d c y m (d-1-m))/\aM 240 (gM d c y m (d-1-m+1))/\aM 240 (c*gM d c y m (d-1-m+1)))
 (h:∀p g,gG [1,2,4,9,10] p F->oF b N f s d x T (gM d c y (d-i)) g->hO b H g->R .norm p g):bK (.loop (pc 342 2)) (hD 2 R) F H:=by
 have W:=q.hd;simp only[ak 342 oG 2,ak 342 oG 1,ak 342 oG 0];refine y_ (d-i) (λm=>(d:Int)-1-m) [1,2,4,9,10] [] 0 (λm _ g=>oF b N f s d x T (gM d c y m) g/\hO b H g) ?_ (λm r=>PS aa aa) ai (cj _) (λ_ _ _ _ _ h=>h) ⟨a,.refl _ _⟩ ?_ ?_ ?_
 .rw[G];simp
 .intro m p g r e _ l _ K J;simp only[go_sem]at e;simp only[go_sem,e,l,t];refine J _ ?_ trivial ?_ ?_
  iterate 2 simp only[go_sem,e,l]
  .simp only[go_sem];exact congrArg V.bool (PB aa)
 .rintro m p g r e _ l ⟨a,I⟩;simp only[go_sem]at e;obtain⟨P,B,C,D⟩:=L m r;have j:=a.hx;obtain⟨k,A⟩:∃k,k=d-1-m:=⟨_,rfl⟩;have E:(d:Int)-1-m=(k:Int):=aa;rw[<-A]at B C D;have Q:aE .i64 ((k:Int)+1)=((k+1:Nat):Int):=by rw[aK _ aa];omega
  rw[E]at l;simp only[go_sem,e,l,o,n,j,Q,l4];refine dD.mono ?_ (zk a.hl q (k:=k) aa);rintro v g ⟨rfl,M,u⟩;have a:=a.fx M u;have j:=a.hx;simp only[go_sem,e,n,j,l4];refine dD.mono ?_ (zk a.hl q (k:=k+1) aa);rintro v S ⟨rfl,O,w⟩;have a:=a.fx O w;have j:=a.hx;simp only[go_sem,e,o,n,j,l4];refine bq (IZ P C) a.ht ?_;simp only[go_sem,e,o,n,j,l4];refine bq (La B D) a.ht ?_;simp only[go_sem,e,o,n,l,j,l4];refine dD.mono ?_ (EV a.hl q (k:=k) aa _);rintro v U ⟨l3,z⟩;have a:=a.fx l3 z;simp only[go_sem,e,l,E,o,n,t];refine⟨zv,?_,((I.trans u).trans w).trans z⟩;rw[show gM d c y (m+1)=fR (gM d c y m) (d-1-m) (gM d c y m (d-1-m)+c*gM d c y m (d-1-m+1))from rfl,<-A];exact a
 grind
theorem at5(v:qN N f s d)(h:mu b N f s d T y H)(G:GT H)(C:5<=b)(J:∀i m,i<d->m<d-i->aM 240 c/\aM 240 (gM d c (iL d c y i) m (d-1-m))/\aM 240 (gM d c (iL d c y i) m (d-1-m+1))/\aM 240 (c*gM d c (iL d c y i) m (d-1-m+1))):
 dm 342 [.agg (lJ b N f s d),.str (aO c)] H λ_ a=>mu b N f s d T (iL d c y d) a/\hO b H a:=by
 have w:=h.n;have Q:=v.hd;refine lX oG (h:=?_);have q:oF b N f s d H.ag T y (H.push (an (lJ b N f s d) 0)):=⟨⟨by simp only[go_sem,ek w,h.g],xh w⟩,by simp only[go_sem],⟨nO _,aa⟩,G.push aa _,C⟩;have t:hO b H (H.push (an (lJ b N f s d) 0)):=.push b H _;have E:=q.hx;by_cases u:c=0
 .subst u;have e:aO (0:Rat)=[48]:=rfl;simp only[go_sem,aV 342 oG,ak 342 oG 9,jm oG,e];refine⟨q.hl.congr λk l=>?_,t⟩;have z:∀i,iL d 0 y i=y:=λi=>by
   have M:∀y m,gM d 0 y m=y:=λy m=>by
    induction m with
    |zero=>rfl
    |succ m r=>rw[gM,r];funext j;unfold fR;grind
   induction i with
   |zero=>rfl
   |succ i r=>rw[iL,r,M]
  rw[z]
 .have e:(aO c=[48])=False:=eq_false λh=>u ((avO c).1 h)
  simp only[go_sem,aV 342 oG,ak 342 oG 9,ak 342 oG 8,ak 342 oG 7,jm oG,e,E,l3];simp only[ak 342 oG 6,ak 342 oG 5,ak 342 oG 4,ak 342 oG 3];refine each d [1,2,9] 0 (λm _ a=>oF b N f s d H.ag T (iL d c y m) a/\hO b H a) ?_ ?_ aa ai (cj _) (λ_ _ _ _ _ _ h=>h) ⟨q,t⟩ ?_ ?_
  iterate 2 simp only[go_sem]
  .rintro i B a hi l _ A ⟨o,p⟩;simp only[go_sem]at l;have L:aE .i64 ((d:Int)-1)=(d:Int)-1:=aK _ aa;have F:=o.hx;simp only[go_sem,l,A,F,l3,L];refine at0 (i:=i) v hi o ?_ ?_ ?_ ?_ (λm I=>J i m hi I) λO P x K D=>?_
   iterate 4 simp only[go_sem,l]
   .simp only[go_sem,l,A]at x;simp only[go_sem,x];exact⟨zv,K,p.trans D⟩
  .rintro B a l _ ⟨o,p⟩;simp only[go_sem];exact⟨o.hl,p⟩
end
end
section
section
variable {b N f s d x:Nat}{T y:Nat->Rat}{c w:Rat}{F:Fr}{H:ah}{R:b5}
def start(e:qN N f s d)(h:mu b N f s d T y H)(c:GT H)(a:5<=b):oF b N f s d H.ag T y (H.push (an (lJ b N f s d) 0)):=⟨⟨by simp only[go_sem,ek h.n,h.g],xh h.n⟩,by simp only[go_sem],⟨nO _,by have:=h.n;omega⟩,c.push (by have:=h.n;omega) _,a⟩
theorem atW(o:qN N f s d)(h:mu b N f s d T y H)(z:GT H)(u:5<=b)(A:∀m,m<d->aM 240 w/\aM 240 (mK w m)/\aM 240 (kS w y m (m+1))):
 dm 343 [.agg (lJ b N f s d),.str (aO w)] H λ_ g=>mu b N f s d T (kS w y d) g/\hO b H g:=by
 have J:=o.hd;refine lX Tryz.f343 (h:=?_);have a:=start o h z u;simp only[go_sem,aV 343 Tryz.f343,ak 343 Tryz.f343 5,ak 343 Tryz.f343 4,ak 343 Tryz.f343 3,jm Tryz.f343];simp only[ak 343 Tryz.f343 2,ak 343 Tryz.f343 1,ak 343 Tryz.f343 0];refine y_ d (λm=>1+(m:Int)) [1,2] [4] 0 (λm l g=>rd 4 l=.str (aO (mK w m))/\oF b N f s d H.ag T (kS w y m) g/\hO b H g) ?_ (λm p=>Fo aa aa) ai (cj _) (λm F E H h e=>by grind [ye]) ⟨?_,a,.push b H _⟩ ?_ ?_ ?_
 .simp only[go_sem];rfl
 .simp only[go_sem];rfl
 .rintro m l g p c _ i ⟨k,a,n⟩ K x;simp only[go_sem]at c;have j:=a.hx;simp only[go_sem,c,i,j,l3];refine x _ ?_ ?_ ?_ ?_
  iterate 3 simp only[go_sem,c,i]
  .simp only[go_sem];grind
 .rintro m l g p c _ i ⟨k,a,n⟩;simp only[go_sem]at c;obtain⟨D,t,C⟩:=A m p;have j:=a.hx;rw[(aa:1+(m:Int)=((m+1:Nat):Int))]at i;simp only[go_sem,c,i,k,j,l4];refine dD.mono ?_ (zk a.hl o (k:=m+1) aa);rintro v G ⟨rfl,B,q⟩;have a:=a.fx B q;have j:=a.hx;simp only[go_sem,c,k,j,l4];refine bq (IZ t C) a.ht ?_;simp only[go_sem,c,i,j,l4];refine dD.mono ?_ (EV a.hl o (k:=m+1) aa _);rintro v I ⟨l3,r⟩;have a:=a.fx l3 r;simp only[go_sem,c,i,k];refine bq (IZ t D) a.ht ?_;simp only[go_sem,c,i];exact⟨zv,by grind,rfl,a,(n.trans q).trans r⟩
 .rintro l g c _ ⟨k,a,n⟩;simp only[go_sem];exact⟨a.hl,n⟩
theorem avm{i:Nat}(o:qN N f s d)(hi:i<d)(a:oF b N f s d x T y H)(l:rd 1 F=.ptr x 0)(q:rd 5 F=aj (1+(i:Int)))(C:rd 6 F=aj d)(G:∀m,m<d-i->aM 240 (jX d y m (d-m))/\aM 240 (jX d y m (d-m-1)))
 (h:∀n e,gG [1,5] n F->oF b N f s d x T (jX d y (d-i)) e->hO b H e->R .norm n e):bK (.loop (pc 344 6)) (hD 4 R) F H:=by
 have P:=o.hd;simp only[ak 344 oH 6,ak 344 oH 5,ak 344 oH 4];refine y_ (d-i) (λm=>(d:Int)-m) [1,5] [] 0 (λm _ e=>oF b N f s d x T (jX d y m) e/\hO b H e) ?_ (λm p=>PS aa aa) ai (cj _) (λ_ _ _ _ _ h=>h) ⟨a,.refl _ _⟩ ?_ ?_ ?_
 .rw[C];simp
 .intro m n e p c _ g _ K E;simp only[go_sem]at c;simp only[go_sem,c,g,q];refine E _ ?_ trivial ?_ ?_
  iterate 2 simp only[go_sem,c,g]
  .simp only[go_sem];exact congrArg V.bool (PB aa)
 .rintro m n e p c _ g ⟨a,D⟩;simp only[go_sem]at c;obtain⟨z,A⟩:=G m p;have j:=a.hx;obtain⟨k,w⟩:∃k,d-m=k+1:=⟨d-m-1,aa⟩;have B:(d:Int)-m=((k+1:Nat):Int):=aa;rw[show jX d y (m+1)=fR (jX d y m) (d-m) (jX d y m (d-m)+jX d y m (d-m-1))from rfl];rw[w,vN]at A⊢;rw[w]at z;have L:aE .i64 (((k+1:Nat):Int)-1)=(k:Int):=by rw[aK _ aa];omega
  rw[B]at g;simp only[go_sem,c,g,l,j,L,l4];refine dD.mono ?_ (zk a.hl o (k:=k+1) aa);rintro v e ⟨rfl,I,r⟩;have a:=a.fx I r;have j:=a.hx;simp only[go_sem,c,l,j,l4];refine dD.mono ?_ (zk a.hl o (k:=k) aa);rintro v M ⟨rfl,J,t⟩;have a:=a.fx J t;have j:=a.hx;simp only[go_sem,c,l,j,l4];refine bq (La z A) a.ht ?_;simp only[go_sem,c,l,g,j,l4];refine dD.mono ?_ (EV a.hl o (k:=k+1) aa _);rintro v O ⟨l3,u⟩;have a:=a.fx l3 u;simp only[go_sem,c,g,B,l,q];exact⟨zv,a,((D.trans r).trans t).trans u⟩
 grind
def WA:ec 5 ef 386 [aj (0:Nat),aj (0:Nat)] (.str (aO (jv 0 0)))=true:=ep
def WB:ec 5 ef 386 [aj (1:Nat),aj (0:Nat)] (.str (aO (jv 1 0)))=true:=ep
def WC:ec 5 ef 386 [aj (1:Nat),aj (1:Nat)] (.str (aO (jv 1 1)))=true:=ep
def WD:ec 5 ef 386 [aj (2:Nat),aj (0:Nat)] (.str (aO (jv 2 0)))=true:=ep
def WE:ec 5 ef 386 [aj (2:Nat),aj (1:Nat)] (.str (aO (jv 2 1)))=true:=ep
def WG:ec 5 ef 386 [aj (2:Nat),aj (2:Nat)] (.str (aO (jv 2 2)))=true:=ep
def Wc(b:d<=2)(c:a<=d):bm 386 [aj d,aj a] (.str (aO (jv d a))):=by
 rcases(by omega:(d=0/\a=0)\/(d=1/\a=0)\/(d=1/\a=1)\/(d=2/\a=0)\/(d=2/\a=1)\/(d=2/\a=2))with⟨rfl,rfl⟩|⟨rfl,rfl⟩|⟨rfl,rfl⟩|⟨rfl,rfl⟩|⟨rfl,rfl⟩|⟨rfl,rfl⟩
 .exact eo eg WA
 .exact eo eg WB
 .exact eo eg WC
 .exact eo eg WD
 .exact eo eg WE
 .exact eo eg WG
theorem ai1(b:aM 240 h):cU 385 [.str (aO h),.str (aO (jv d m))] (.aH [.str (aO (h/jv d m)),cY]):=by
 have a:0<(jv d m).num/\aM 2 (jv d m):=by unfold jv;split;exact⟨ai,ai,ai⟩;exact⟨ai,ai,ai⟩
 have:=aiX (aO h) (aO (jv d m)) (rK b) (rK (a.2.mono ai)) (a:=240) (b:=2) (by rw[eT];exact b) (by rw[eT];exact a.2) (by rw[eT];exact a.1) ai
 grind [eT]
theorem avy(n:qN N f s d)(h:mu b N f s d T y H)(D:GT H)(z:5<=b)(E:∀m,m<=d->aM 240 (jW d y m m))(F:∀i m,i<d->m<d-i->aM 240 (jX d (mj d (jW d y (d+1)) i) m (d-m))/\aM 240 (jX d (mj d (jW d y (d+1)) i) m (d-m-1))):
 dm 344 [.agg (lJ b N f s d)] H λ_ g=>mu b N f s d T (mj d (jW d y (d+1)) d) g/\hO b H g:=by
 have C:=n.hd;refine lX oH (h:=?_);have a:=start n h D z;have j:=a.hx;have O:aE .i64 ((d:Int)+1)=((d+1:Nat):Int):=by rw[aK _ aa];omega
 simp only[go_sem,aV 344 oH,ak 344 oH 12,jm oH,j,l3,O];simp only[ak 344 oH 3,ak 344 oH 2,ak 344 oH 1,ak 344 oH 0];refine each (d+1) [1,9] 0 (λm _ g=>oF b N f s d H.ag T (jW d y m) g/\hO b H g) ?_ ?_ aa ai (cj _) (λ_ _ _ _ _ _ h=>h) ⟨a,.push b H _⟩ ?_ ?_
 iterate 2 simp only[go_sem]
 .rintro m w g o c _ e ⟨a,l⟩;simp only[go_sem]at c;have j:=a.hx;have M:=E m aa;simp only[go_sem,c,e,j,l3,l4];refine dD.mono ?_ (zk a.hl n (k:=m) aa);rintro v q ⟨rfl,I,t⟩;have a:=a.fx I t;have j:=a.hx;simp only[go_sem,c,e,j,l3];refine use (Wc C aa) ?_;simp only[go_sem,c,e];refine bq (ai1 M) a.ht ?_;simp only[go_sem,c,e,j,l4];refine dD.mono ?_ (EV a.hl n (k:=m) aa _);rintro v x ⟨J,p⟩;have a:=a.fx J p;simp only[go_sem,c,e];exact⟨zv,a,(l.trans t).trans p⟩
 .rintro w g c _ ⟨a,l⟩;simp only[go_sem]at c;simp only[go_sem,ak 344 oH 11,ak 344 oH 10];simp only[ak 344 oH 9,ak 344 oH 8,ak 344 oH 7];refine y_ d (λm=>1+(m:Int)) [1] [] 0 (λm _ g=>oF b N f s d H.ag T (mj d (jW d y (d+1)) m) g/\hO b H g) ?_ (λm o=>Fo aa aa) ai (cj _) (λ_ _ _ _ _ h=>h) ⟨a,l⟩ ?_ ?_ ?_
  .simp only[go_sem];rfl
  .rintro m r q o k _ e ⟨a,l⟩ K B;simp only[go_sem,c]at k;have j:=a.hx;simp only[go_sem,k,e,j,l3];refine B _ ?_ trivial ?_ ?_
   iterate 2 simp only[go_sem,c,k,e]
   .simp only[go_sem];grind
  .rintro m r q o k _ e ⟨a,l⟩;simp only[go_sem,c]at k;have j:=a.hx;simp only[go_sem,k,e,j,l3];refine avm (i:=m) n o a ?_ ?_ ?_ (λL A=>F m L o A) λP x u G p=>?_
   iterate 3 simp only[go_sem,k,e]
   .simp only[go_sem,k,e]at u;simp only[go_sem,c,u];exact⟨zv,G,l.trans p⟩
  .rintro r q k _ ⟨a,l⟩;simp only[go_sem];exact⟨a.hl,l⟩
def ap_{lo hi:Rat}{p q:Nat}(g:qN N f s d)(h:mu b N f s d T y H)(z:GT H)(i:5<=b)(n:p<H.ag/\p≠b)(t:q<H.ag/\q≠b)(r:H.get p=an [.str (aO lo),.str (aO hi)] 0)(w:H.get q=an [.str (aO (hi-lo))] 0)(l:yC (aM 240) d lo (hi-lo) y):
 dm 341 [.agg (lJ b N f s d),.ptr p 0,.ptr q 0] H λ_ m=>mu b N f s d T (iS d lo hi y) m/\hO b H m:=by
 have a:=start g h z i;have o:hO b H (H.push (an (lJ b N f s d) 0)):=.push b H _;refine lX Tryz.f341 (h:=?_);have e:=a.hx;have G:(H.push (an (lJ b N f s d) 0)).get p=_:=(o.1 p n.1 n.2).trans r;have D:=ek n.1;simp only[go_sem,aV 341 Tryz.f341,ak 341 Tryz.f341 2,jm Tryz.f341,e,l4,D,r];refine dD.mono ?_ (at5 g a.hl a.ht i l.sh);rintro v m ⟨B,c⟩;have a:=a.fx B c;have c:=o.trans c;have e:=a.hx;have x:=(c.1 q t.1 t.2).trans w;simp only[go_sem,ak 341 Tryz.f341 1,e,l4,x];refine dD.mono ?_ (atW g a.hl a.ht i l.sc);rintro v E ⟨C,j⟩;have a:=a.fx C j;have j:=c.trans j;have e:=a.hx;simp only[go_sem,ak 341 Tryz.f341 0,e,l4];refine dD.mono ?_ (avy g a.hl a.ht i l.avn l.tb);rintro v F ⟨l3,u⟩;simp only[go_sem];exact⟨l3.congr λk A=>R6 d g.hd lo hi y k A,j.trans u⟩
end
end
def P8{m:Nat}{cs cs' new:au}(e:b.get a=an cs 0)(hl:lI l=some m)(f:eu b 1 (ej m D) l=some new)(h:dI new=true)(i:dj new cs d=some cs')(g:s (put j x (aj (ej m D:Nat))) (b.set a (an cs' 0))):
 gW x s j (oP 1 [.slice a d D Y,l] b):=by
 have c:oP 1 [.slice a d D Y,l] b=some (aj (ej m D:Nat),b.set a (an cs' 0)):=by show aq (lI l) (λm=>aq (eu b 1 (ej m D) l) λnew=>aq (b.fe a d new) λb=>some (V.int .i64 (.ofNat (ej m D)),b))=_;rw[hl];show aq (eu b 1 (ej m D) l) _=_;rw[f];show aq (b.fe a d new) _=_;unfold ah.fe;rw[e];show aq (aX (dI new) (aq (dj new cs d) λcs'=>some (b.set a (an cs' 0)))) _=_;rw[h,i];rfl
 rw[c];exact g
theorem aun{s b n c:Nat}{k:IntKind}{l:Int}(d:0<=l/\l<=n/\n<=c/\l<c):slice3 (kG s) true false false [.slice b 0 n (.known c),.int k l]=some (.val (.slice b (l.toNat*s) (n-l.toNat) (.known (c-l.toNat)))):=by
 show qA b 0 n c s (some (.int k l)) none=_;unfold qA;rw[tq (l:=l.toNat) (h:=n) (nr k d.1) rfl aa aa];show some (bh.val (.slice b (Bool.casesOn (motive:=λ_=>Nat) (bt c l.toNat) (gY 0 (fz l.toNat s)) 0) (ko n l.toNat) (.known (ko c l.toNat))))=_;rw[show bt c l.toNat=false from mo.2 λa=>by have:=(beq_eq _ _).1 a;omega]
 grind
def pg(N n:Nat):au:=aZ n (.str [48])++aZ (N-n) (.str [])
theorem U5(h:m<=d):(pg a d).take m=aZ m (.str [48]):=by
 unfold pg
 grind
theorem U2(h:d<=a):af (pg a d)=a:=by unfold pg;simp;omega
theorem U4{n k:Nat}(h:n+k<=a):dj (aZ k (V.str [48])) (pg a n) n=some (pg a (n+k)):=by rw[mH,ay (by grind [U2,ux])];congr 1;rw[U5 (aJ n),ux,List.replicate_append_replicate];unfold pg;rw[List.drop_append,ux,xb,xb,(aa:n-(n+k)=0),(aa:n+k-n=k),(aa:a-n-k=a-(n+k))];rfl
def U3(k:Nat):dI (aZ k (V.str [48]))=true:=tj.2 λv h=>by rw[(List.mem_replicate.1 h).2];rfl
def aq0(N:Nat)(b_:N<=1000):bm 381 [aC 1,aC N] (.aH [aC 0,aC N]):=by have h:=Bo 1 N ai aa;rw[kn,mw aa,jR aa,Int.natCast_one,kh]at h;refine nF (.f2 .ii .ii) (eM Tryz.f381 (h:=?_));simp only[go_sem];refine use h ?_;simp only[go_sem];exact akF rfl (.aH (.f2 .ii .ii))
theorem atk(N:Nat)(b_:1<=N/\N<=1000)(H:ah)(x:Nat)(D:x<H.ag)(A:H.get x=an [.str [48]] 0):dm 338 [.slice x 0 1 (.known 1),aj N] H λv a=>v=.slice H.ag 0 N (.known N)/\a.get H.ag=an (ic N λ_=>0) 0/\(∀y,y<H.ag->a.get y=H.get y)/\a.ag=H.ag+1:=by
 have w:((N:Int)<0)=False:=eq_false aa;have P:aE .u64 1=1:=rfl;have K:aE .u64 (N:Int)=(N:Int):=by rw[hN];exact Int.emod_eq_of_lt aa aa
 have L:aE .i64 (N:Int)=(N:Int):=aK _ aa;have z:((9223372036854775807:Int)<(N:Int))=False:=eq_false aa;have C:l_ 16 [.str []] [aj N,aj N]=some (.new (rep [.str []] N) (.slice N N)):=by rw[iG aa];simp
 have E:∀N,rep [V.str []] N=pg N 0:=λN=>by
  unfold pg;induction N with
  |zero=>rfl
  |succ n F=>show V.str []::rep [V.str []] n=_;rw[F];simp[qK]
 have s:yX .u64 [aj 1]=some (.val (aC 1)):=rfl;have t:yX .u64 [aj N]=some (.val (aC N)):=by show some (bh.val (aC (aE .u64 (N:Int))))=_;rw[K]
 have u:yX .i64 [aC N]=some (.val (aj N)):=by show some (bh.val (aj (aE .i64 (N:Int))))=_;rw[L]
 have G:di (.slice x 0 1 (.known 1))=some (.val (aj 1)):=rfl;have J:=ek D;refine lX qX (h:=?_);simp only[go_sem,aV 338 qX,ak 338 qX 8,ak 338 qX 7,jm qX,w,G,s,t];refine use (aq0 N b_.2) ?_;simp only[go_sem,ak 338 qX 6,ak 338 qX 5,ak 338 qX 4,z,u,C,E];refine P8 (m:=1) (cs:=pg N 0) (new:=aZ 1 (V.str [48])) (cs':=pg N 1) eJ rfl ?_ (U3 1) (U4 (n:=0) (k:=1) aa) ?_
 .rw[lM aa];show(ah.push H _).dz x 0 (1*1)=_;rw[fO (cs:=[.str [48]]) (by simp only[go_sem,J,A]),dQ];rfl
 rw[lM aa];simp only[go_sem,ak 338 qX 3];refine b8 (λr b a=>∃n,r=N-n/\1<=n/\n<=N/\rd 7 b=.slice H.ag 0 N (.known N)/\rd 8 b=aj n/\a.get H.ag=an (pg N n) 0/\(∀y,y<H.ag->a.get y=H.get y)/\a.ag=H.ag+1) (N-1) ⟨1,rfl,aJ _,b_.1,?_,?_,?_,λy j=>?_,?_⟩ ?_
 iterate 3 simp only[go_sem]
 .simp only[go_sem,ek j]
 .simp only[go_sem]
 rintro r b a ⟨n,rfl,O,I,d,l,g,hl,m⟩;have o:di (.slice H.ag 0 N (.known N))=some (.val (aj N)):=rfl;by_cases h:n<N
 .have c:((n:Int)<(N:Int))=True:=eq_true aa;have p:=aun (s:=1) (b:=H.ag) (n:=N) (c:=N) (k:=.i64) (l:=(n:Int)) aa;have q:=tV (s:=1) (b:=H.ag) (n:=N) (c:=N) (k:=.i64) (h:=(n:Int)) aa;simp only[cg,eD]at p q;obtain⟨k,f⟩:∃k,k=ej n (N-n):=⟨_,rfl⟩;have B:k<=n/\k<=N-n/\1<=k:=by rw[f,Bu];omega
  have M:aE .i64 ((n:Int)+(k:Int))=((n+k:Nat):Int):=by rw[aK _ aa];omega
  simp only[go_sem,ak 338 qX 1,ak 338 qX 0,d,l,o,c,p,q];refine P8 (m:=n) (cs:=pg N n) (new:=aZ k (V.str [48])) (cs':=pg N (n+k)) g rfl ?_ (U3 k) (U4 aa) ?_
  .rw[<-f];show a.dz H.ag 0 (k*1)=_;rw[fO g,dQ,eD,fB,ay (by rw[U2 I];omega),U5 B.1]
  rw[<-f];simp only[go_sem,M];refine⟨N-(n+k),aa,n+k,rfl,aa,aa,?_,?_,?_,λy j=>?_,?_⟩
  iterate 3 simp only[go_sem,d]
  .rw[ah.aT,ao aa];exact hl y j
  .exact m
 .have c:((n:Int)<(N:Int))=False:=eq_false aa;simp only[go_sem,ak 338 qX 1,ak 338 qX 2,d,l,o,c];have e:n=N:=aa;subst e;refine⟨?_,hl,m⟩;rw[g];congr 1;unfold pg ic;rw[nQ,qL,hU];refine oC λi=>?_
  rw[yE,hY];by_cases hi:i<n
  .rw[ay hi,p4 hi];rfl
  grind
theorem Sr(a b:Nat):q6 max2 [aj a,aj b]=some (.val (aj (max a b:Nat))):=by
 show some (bh.val (V.int .i64 (match l7 (a:Int) (b:Int)with|true=>(b:Int)|false=>(a:Int))))=_
 grind [qj,b3,bP]
def n3(p:aF)(i:Nat):Nat:=p.foldl (λd t=>max d (t.2.getD i 0)) 0
def c8(n:Nat)(p:aF):av:=(kZ n).map (n3 p)
def mD(n:Nat)(p:aF)(e:av)(k:Nat):av:=(kZ n).map λi=>if i<k then max (n3 p i) (e.getD i 0)else n3 p i
theorem AS(n:Nat)(p:aF)(e:av)(k:Nat):af (mD n p e k)=n:=by unfold mD;rw[gD,rT]
theorem PG(h:d<a):(mD a k g d).getD d 0=n3 k d:=by
 unfold mD
 grind
theorem PJ(n:Nat)(p:aF)(e:av):mD n p e 0=c8 n p:=by
 unfold mD c8
 grind
def PF(n:Nat)(p:aF)(t:b9):mD n p t.2 n=c8 n (p++[t]):=by
 unfold mD c8;refine List.map_congr_left λi hi=>?_
 rw[ay (List.mem_range.1 hi)];unfold n3;rw[List.foldl_append];rfl
theorem PI(h:d<a):(mD a k g d).set d (max (n3 k d) (g.getD d 0))=mD a k g (d+1):=by
 refine oC λi=>?_
 rw[rS,AS];unfold mD
 grind
theorem PD(n:Nat):rep [V.int .i64 0] n=bL (c8 n []):=by
 have:∀n:Nat,rep [V.int .i64 0] n=bL (aZ n 0):=λn=>by
  induction n with
  |zero=>rfl
  |succ n a=>rw[BP,a,iW];rfl
 rw[this];congr 1;refine oC λi=>?_
 unfold c8;rw[yE,hY];by_cases hi:i<n
 .rw[ay hi,p4 hi];rfl
 grind
def HL(n:Nat)(p:aF):af (c8 n p)=n:=by unfold c8;rw[gD,rT]
def QU(c:b.get 6=an (bL (c8 a k)) 0):∃v,bS b (ah.zero b.ag) (.slice 6 0 a (.known a)) v/\bA v/\v=bf (c8 a k):=by
 have hl:=HL a k;refine⟨_,?_,n6 _,rfl⟩;unfold bf;rw[hl];by_cases d:a=0
 .subst d;have:c8 0 k=[]:=rfl;rw[this];exact .fQ _ _ _
 .refine .row (m:=a) ?_ aa (ah.hL _ _) (dn.refl _);rw[fO c,dQ];exact je (by rw[jz,hl])
theorem aiM(n:Nat)(K:n<=1000)(p:aF)(hl:af p<=10000)(v:∀t∈p,t.2.length=n/\∀i,t.2.getD i 0<=1000):bm 336 [gV n p] (bf (c8 n p)):=by
 refine nF (.f1 (.agg (.f2 .ii (tE _)))) (lX qa (h:=?_));have z:l_ 8 [aj 0] [aj n,aj n]=some (.new (rep [aj 0] n) (.slice n n)):=by rw[iG aa];simp
 simp only[go_sem,aV 336 qa,ak 336 qa 10,ak 336 qa 9,gV,ee,z,PD];simp only[ak 336 qa 7,ak 336 qa 6,ak 336 qa 5,ak 336 qa 4];refine each (af p) [3,12,13] 6 (λm _ c=>c.get 6=an (bL (c8 n (p.take m))) 0/\7<=c.ag) ?_ ?_ aa ai (jI rfl) (λ_ _ _ _ _ _ h=>h) ⟨?_,jI rfl⟩ ?_ ?_
 iterate 2 simp only[go_sem]
 .simp only[go_sem];rfl
 .rintro m o c x a hh hi ⟨b,d⟩;simp only[go_sem]at a;obtain⟨t,A,j⟩:=gw x;obtain⟨u,I⟩:=v t A;have D:=zn (l:=p) (i:=(m:Int)) (k:=.i64) aa;have H:=Fy j;have E:di (bf t.2)=some (.val (aj n)):=by rw[<-u];rfl
  have F:=ek (aa:6<c.ag);simp only[go_sem,a,hi,D,H,vD,E];simp only[ak 336 qa 3,ak 336 qa 2,ak 336 qa 1,ak 336 qa 0];refine each n [3,12,13,14,19,20] 6 (λk _ f=>f.get 6=an (bL (mD n (p.take m) t.2 k)) 0/\7<=f.ag) ?_ ?_ aa ai ff (λ_ _ _ _ _ _ h=>h) ⟨?_,?_⟩ ?_ ?_
  iterate 3 simp only[go_sem,F,b,PJ]
  .simp only[go_sem];omega
  .rintro k q f J e g w ⟨b,d⟩;simp only[go_sem,a,hi]at e;have B:=j8 (l:=t.2) (i:=(k:Int)) (k:=.i64) aa;have C:dO none 1 [.slice 6 0 n (.known n),aj k]=some (.val (.ptr 6 (0+(k:Int).toNat*1))):=cH aa;have r:=jc (l:=t.2) (i:=k) aa;have s:dw (bL (mD n (p.take m) t.2 k)) k=some (aj ((n3 (p.take m) k:Nat):Int)):=by grind [jc,AS,PG]
   have G:dj [V.int .i64 ((max (n3 (p.take m) k) (t.2.getD k 0):Nat):Int)] (bL (mD n (p.take m) t.2 k)) k=some (bL (mD n (p.take m) t.2 (k+1))):=by grind [fE,jz,AS,D4,PI]
   simp only[go_sem,a,e,hi,w,B,C,r,s,b,Sr,G];exact⟨eC.set g (aJ 6) _,d⟩
  .rintro q f e g ⟨b,d⟩;simp only[go_sem,a,hi]at e;simp only[go_sem,a,e,hi];refine⟨⟨λy l=>(g.1 y l).trans ?_,aa⟩,by rw[vq j,<-PF];exact b,d⟩;simp only[go_sem,ek (aa:y<c.ag)];rw[hh.1 y l];simp only[go_sem]
 .rintro o c a hh ⟨b,d⟩;simp only[go_sem]at a;rw[qM]at b;simp only[go_sem,ak 336 qa 8,jm qa,a];exact QU b
theorem aiN(n:Nat)(K:n<=1000)(p:aF)(hl:af p<=10000)(v:∀t∈p,t.2.length=n/\∀i,t.2.getD i 0<=1000):bm 128 [d_ n p] (bf (c8 n p)):=by
 refine nF (.f1 (kA _ _)) (lX p_ (h:=?_));have z:l_ 8 [aj 0] [aj n,aj n]=some (.new (rep [aj 0] n) (.slice n n)):=by rw[iG aa];simp
 simp only[go_sem,aV 128 p_,ak 128 p_ 10,ak 128 p_ 9,d_,fZ,z,PD];simp only[ak 128 p_ 7,ak 128 p_ 6,ak 128 p_ 5,ak 128 p_ 4];refine each (af p) [3,12,13] 6 (λm _ c=>c.get 6=an (bL (c8 n (p.take m))) 0/\7<=c.ag) ?_ ?_ aa ai (jI rfl) (λ_ _ _ _ _ _ h=>h) ⟨?_,jI rfl⟩ ?_ ?_
 iterate 2 simp only[go_sem]
 .simp only[go_sem];rfl
 .rintro m o c x a hh hi ⟨b,d⟩;simp only[go_sem]at a;obtain⟨t,A,j⟩:=gw x;obtain⟨u,I⟩:=v t A;have D:=ny (l:=p) (i:=(m:Int)) (k:=.i64) aa;have H:=Cf j;have E:di (bf t.2)=some (.val (aj n)):=by rw[<-u];rfl
  have F:=ek (aa:6<c.ag);simp only[go_sem,a,hi,D,H,gz,bk,gv,fS,E];simp only[ak 128 p_ 3,ak 128 p_ 2,ak 128 p_ 1,ak 128 p_ 0];refine each n [3,12,13,14,19,20] 6 (λk _ f=>f.get 6=an (bL (mD n (p.take m) t.2 k)) 0/\7<=f.ag) ?_ ?_ aa ai ff (λ_ _ _ _ _ _ h=>h) ⟨?_,?_⟩ ?_ ?_
  iterate 3 simp only[go_sem,F,b,PJ]
  .simp only[go_sem];omega
  .rintro k q f J e g w ⟨b,d⟩;simp only[go_sem,a,hi]at e;have B:=j8 (l:=t.2) (i:=(k:Int)) (k:=.i64) aa;have C:dO none 1 [.slice 6 0 n (.known n),aj k]=some (.val (.ptr 6 (0+(k:Int).toNat*1))):=cH aa;have r:=jc (l:=t.2) (i:=k) aa;have s:dw (bL (mD n (p.take m) t.2 k)) k=some (aj ((n3 (p.take m) k:Nat):Int)):=by grind [jc,AS,PG]
   have G:dj [V.int .i64 ((max (n3 (p.take m) k) (t.2.getD k 0):Nat):Int)] (bL (mD n (p.take m) t.2 k)) k=some (bL (mD n (p.take m) t.2 (k+1))):=by grind [fE,jz,AS,D4,PI]
   simp only[go_sem,a,e,hi,w,B,C,r,s,b,Sr,G];exact⟨eC.set g (aJ 6) _,d⟩
  .rintro q f e g ⟨b,d⟩;simp only[go_sem,a,hi]at e;simp only[go_sem,a,e,hi];refine⟨⟨λy l=>(g.1 y l).trans ?_,aa⟩,by rw[vq j,<-PF];exact b,d⟩;simp only[go_sem,ek (aa:y<c.ag)];rw[hh.1 y l];simp only[go_sem]
 .rintro o c a hh ⟨b,d⟩;simp only[go_sem]at a;rw[qM]at b;simp only[go_sem,ak 128 p_ 8,jm p_,a];exact QU b
def jD(q:Rat×Rat):e4:=(aO q.1,aO q.2)
def Aq(q:Rat×Rat):Prop:=aM 81 q.1/\aM 81 q.2/\q.1<q.2
theorem MY(g:Nat)(x:V):oL [.func g [] [],x]=some (.fn g,[x]):=rfl
theorem I9(q:Rat):(numOf (aO q)).isSome=true:=by rw[rz];rfl
def ams(q:Rat×Rat)(h:Aq q):cU 398 [.agg (bZ (jD q))] cY:=by obtain⟨a,b,i⟩:=h;have d:=qD a ai;have e:=qD b ai;have f:=vw (aO q.1) d;have g:=vw (aO q.2) e;have c:=tA (aO q.1) (aO q.2) d e (a:=81) (b:=81) (by rw[eT];exact a) (by rw[eT];exact b) ai;rw[I9]at f g;rw[eT,eT,yf i]at c;refine dg (.f1 (.agg (lZ _))) (eM Tryz.f398 (h:=?_));simp only[go_sem,bZ,jD];refine bq f bH ?_;simp only[go_sem];refine bq g bH ?_;simp only[go_sem];refine bq c bH ?_;simp only[go_sem,Int.reduceNeg,Int.reduceLT];exact bO bH rfl (.bool _)
theorem aml(q:Rat×Rat)(h:Aq q):cU 397 [.agg (bZ (jD q))] aR:=by
 have a:=ams q h;have b:(aO q.1=aO q.2)=False:=eq_false λe=>by
  have:=congrArg rv e;rw[eT,eT]at this;have:=h.2.2
  grind
 refine dg (.f1 (.agg (lZ _))) (eM Tryz.f397 (h:=?_));simp only[bZ,jD]at a;simp only[go_sem,bZ,jD];refine bq a bH ?_;simp only[go_sem,b];exact bO bH rfl (.bool _)
def arz(g:Nat)(l:List e4)(hl:af l<=1000)(h:∀s∈l,cU g [.agg (bZ s)] aR):cU 102 [bE bZ l,.func g [] []] aR:=by
 have hi:cU 159 [bE bZ l,.func g [] []] (aj (-1)):=by
  refine dg (.f2 (hH lZ l) (.func _ .nil .nil)) (eM Tryz.f159 (h:=?_));simp only[go_sem];refine each (af l) [0,1,6,7] 5 (λ_ _ _=>True) ?_ ?_ aa ai (aJ 5) (λ_ _ _ _ _ _ h=>h) trivial ?_ ?_
  iterate 2 simp only[go_sem]
  .intro m b c f a hh hi j;simp only[go_sem]at a;obtain⟨s,i,e⟩:=gw f;have d:=jO mm e;have g:=hh.gt e5;simp(disch:=omega)only[go_sem,a,hi,iq,d,MY];refine bq (h s i) g ?_;simp only[go_sem,a,hi];exact hh
  .intro b c a hh _;simp only[go_sem];exact bO (hh.gt e5) rfl (.int _ _)
 refine dg (.f2 (hH lZ l) (.func _ .nil .nil)) (eM Tryz.f102 (h:=?_));simp only[go_sem];refine bq hi bH ?_;simp only[go_sem,Int.reduceNeg,Int.reduceLT];exact bO bH rfl (.bool _)
def ary(g:Nat)(l:List aW)(hl:af l<=1000)(h:∀s∈l,cU g [.str s] aR):cU 70 [iM l,.func g [] []] aR:=by
 have hi:cU 119 [iM l,.func g [] []] (aj (-1)):=by
  refine dg (.f2 (.row _ (q3 l)) (.func _ .nil .nil)) (eM Tryz.f119 (h:=?_));simp only[go_sem];refine each (af l) [0,1,6,7] 5 (λ_ _ _=>True) ?_ ?_ aa ai (aJ 5) (λ_ _ _ _ _ _ h=>h) trivial ?_ ?_
  iterate 2 simp only[go_sem]
  .intro m b c e a hh hi i;simp only[go_sem]at a;obtain⟨s,f,d⟩:=gw e;have g:=hh.gt e5;simp(disch:=omega)only[go_sem,a,hi,uZ,vp d,MY];refine bq (h s f) g ?_;simp only[go_sem,a,hi];exact hh
  .intro b c a hh _;simp only[go_sem];exact bO (hh.gt e5) rfl (.int _ _)
 refine dg (.f2 (.row _ (q3 l)) (.func _ .nil .nil)) (eM Tryz.f70 (h:=?_));simp only[go_sem];refine bq hi bH ?_;simp only[go_sem,Int.reduceNeg,Int.reduceLT];exact bO bH rfl (.bool _)
theorem LX(l:List (Rat×Rat))(hl:af l<=1000)(h:∀q∈l,Aq q):cU 380 [bE bZ (l.map jD)] cY:=by
 have a:=arz 397 (l.map jD) (by rw[gD];exact hl) λs b=>by grind [aml]
 refine dg (.f1 (hH lZ _)) (eM Tryz.f380 (h:=?_));simp only[go_sem];refine bq a bH ?_;simp only[go_sem];exact bO bH rfl (.bool _)
structure iJ (n:Nat) (p:List b9) (l:List (Rat×Rat)):Prop where
 hn:n=1\/n=2
 hp:mC n p
 hl:af p<=10
 he:∀t∈p,∀i,t.2.getD i 0<=2
 eK:af l=n
 hb:∀q∈l,Aq q
theorem PE(h:∀t∈k,t.2.getD d 0<=a):n3 k d<=a:=by
 unfold n3
 suffices ∀(l:aF) (b:Nat),b<=a->(∀t∈l,t.2.getD d 0<=a)->l.foldl (λb t=>max b (t.2.getD d 0)) b<=a from this k 0 (cj _) h
 intro l;induction l with
 |nil=>exactλb c _=>c
 |cons t l e=>grind
variable{N:b9}
theorem RZ(a:N∈k)(i:Nat):N.2.getD i 0<=n3 k i:=by
 unfold n3
 suffices ∀(l:aF) (d:Nat),d<=l.foldl (λd N=>max d (N.2.getD i 0)) d/\∀u∈l,u.2.getD i 0<=l.foldl (λd N=>max d (N.2.getD i 0)) d from(this k 0).2 N a
 intro l;induction l with
 |nil=>grind
 |cons u l b=>grind
variable{u:List (Rat×Rat)}
def iJ.bC(h:iJ a k u):nL a (c8 a k):=by refine⟨HL a k,λd b=>?_⟩;unfold c8 at b;obtain⟨i,_,rfl⟩:=g8.1 b;exact PE λt c=>h.he t c i
def iJ.PC(h:iJ a k u):bm 336 [gV a k] (bf (c8 a k)):=aiM a (by have:=h.hn;omega) k (by have:=h.hl;omega) λc b=>⟨(h.hp.t c b).len,λi=>by have:=h.he c b i;omega⟩
def Xl(h:iJ a k u):cU 335 [gV a k,bE bZ (u.map jD)] (aj 0):=by
 have f:=h.hn;have b:=zN a aa k h.hp;have d:=LX u (by have:=h.eK;omega) h.hb;have c:=h.PC;have e:=GG f h.bC;have g:di (bE bZ (u.map jD))=some (.val (aj a)):=by unfold bE;rw[gD,h.eK];rfl
 refine dg (.f2 (we _ _) (hH lZ _)) (eM Tryz.f335 (h:=?_));simp only[gV,ee]at b c⊢;simp only[go_sem];refine bq b bH ?_;simp only[go_sem];refine bq d bH ?_;simp only[go_sem,g];refine use c ?_;simp only[go_sem];refine use e ?_;simp only[go_sem];exact bO bH rfl (.int _ _)
section
def awp{P:Program}{x:Fr->V}{a c:Code}{R:b5}(f:FuncId)(first captured:au)(e:x j=.func f first captured)
 (h:∀n,codeOk m n a=true->codeOk m n c=true->dD P m (.fn f) (first++([.jZ b.ag]++captured)) (b.push (.bW (.loop ⟨n,j,g,a,c,0,aN⟩))) λ_ d=>∃L,d.qn b.ag=some L/\L.st≠1/\∃x,L.pM=u5 x/\R x j (d.set b.ag (.bW (.loop { L with st:=3 })))):jJ P m (.om x g a c) R j b:=⟨f,first,captured,e,h⟩
def Be{L:uk}(h:b.get a=.bW (.loop L)):b.qn a=some L:=by unfold ah.qn;rw[h]
def al_(D:av)(H:ah):dm 382 [bf D] H λv a=>v=.func 400 [] [.ptr H.ag 0]/\a=H.push (an [bf D] 0):=by have b:zE 400 0 [.ptr H.ag 0]=some (.val (.func 400 [] [.ptr H.ag 0])):=rfl;refine eM Tryz.f382 (h:=?_);simp only[go_sem,b]
def amk(p:m=1\/m=2){a:av}(l:nL m g)(o:jn g a)(hi:O<m):a.getD O 0=jM ((fm g).getD O 0) (g.getD O 0) (dR g a):=by
 obtain⟨hl,_⟩:=l;obtain⟨h,c⟩:=o;rcases p with rfl|rfl
 .match g,a,hl,h,c with
  |[d],[b],_,_,c=>obtain rfl:O=0:=aa;have:=c 0;show b=(b*1+0)/1%(d+1);change b<=d at this;rw[pA,jR aa];omega
 .match g,a,hl,h,c with
  |[d,e],[b,f],_,_,c=>
   have j:=c 0;have k:=c 1;change b<=d at j;change f<=e at k;rcases(by omega:O=0\/O=1)with rfl|rfl
   .show b=(b*((e+1)*1)+(f*1+0))/((e+1)*1)%(d+1);rw[eD,eD,dG,i_,Nat.add_mul_div_right _ _ (mA _),mw aa,eW,jR aa]
   .show f=(b*((e+1)*1)+(f*1+0))/1%(e+1);rw[pA,eD,eD,i_,Nat.add_mul_mod_self_right,jR aa];rfl
def CC(D:av):Prop:=pr D<=9/\∀i,i<D.length->D.getD i 0<=2/\0<(fm D).getD i 0/\(fm D).getD i 0<=9/\∀f,f<pr D->jM ((fm D).getD i 0) (D.getD i 0) f=0->f+D.getD i 0*(fm D).getD i 0<pr D
instance(D:List Nat):Decidable (CC D):=by unfold CC;infer_instance
def zz(c:a=1\/a=2)(b:nL a g):CC g:=v5 c (P:=CC) ai ai b
theorem ap9{lo hi:Rat}{T:Nat->Rat}(l:0<a)(o:m<=2)(i:jM a m O=0):ql (pT a m lo hi T O) O a m (λk=>T (O+k*a))=pT a m lo hi T O/\ql (pT a m lo hi T O) O a m (iS m lo hi λk=>T (O+k*a))=pT a m lo hi T (O+1):=by
 have h:=λk (c:k<=m)=>awe (lo:=lo) (hi:=hi) (T:=T) l i c
 constructor
 .funext j;unfold ql;by_cases b:j=O
  .subst b;rw[ay rfl];have:=(h 0 (cj _)).1;grind
  grind
 .funext j;unfold ql;by_cases b:j=O
  .grind
  .rw[ao b];by_cases f:1<=m/\j=O+1*a
   .grind
   .rw[ao f];by_cases g:2<=m/\j=O+2*a
    .grind
    .rw[ao g];refine(awf λk c e=>?_).symm;rcases(by omega:k=0\/k=1\/k=2)with rfl|rfl|rfl
     .exact b aa
     .exact f ⟨c,e⟩
     .exact g ⟨c,e⟩
def XA{U:Nat->Rat}(h:∀j,j<a->L j=U j):ic a L=ic a U:=by unfold ic;simp_all
structure Vh (L:uk) (lb cb N s d:Nat) (lo hi:Rat) (T:Nat->Rat) (H0:ah) (n:Nat) (H:ah):Prop where
 l:H.get lb=.bW (.loop L)
 c:H.get cb=an (ic N (pT s d lo hi T n)) 0
 k:∀y,y<lb->y≠cb->H.get y=H0.get y
 n:lb<H.ag
section
variable {n:Nat}{D:av}{i s d:Nat}{T:Nat->Rat}{lo hi':Rat}{cb p q:Nat}
set_option maxHeartbeats 1000000 in
theorem awi(hn:n=1\/n=2)(W:nL n D)(hi:i<n)(es:(fm D).getD i 0=s)(ed:D.getD i 0=d){b:Nat}{oK:V}{F:Fr}{H:ah}{Q:V->ah->Prop}(hg:GT H)(a':5<=cb)(z:cb<b)(hp:p<b/\p≠cb)(hw:q<b/\q≠cb)(a4:H.ag=b+5)
 (gc:H.get cb=an (ic (pr D) T) 0) (b1:H.get p=an [.str (aO lo),.str (aO hi')] 0) (b2:H.get q=an [.str (aO (hi'-lo))] 0) (hq:∀f,f<pr D->jM s d f=0->yC (aM 240) d lo (hi'-lo) λk=>T (f+k*s))
 (f3:rd 3 F=.ptr b 0) (f4:rd 4 F=.ptr (b+1) 0) (f5:rd 5 F=.ptr (b+2) 0) (f6:rd 6 F=.ptr (b+3) 0) (f7:rd 7 F=.ptr (b+4) 0) (g0:H.get b=an [oK,bf D,.slice cb 0 (pr D) (.known (pr D))] 0) (g1:H.get (b+1)=an [aj i] 0) (g2:H.get (b+2)=an [.func 341 [] [.ptr p 0,.ptr q 0]] 0) (g3:H.get (b+3)=an [aj s] 0) (g4:H.get (b+4)=an [aj d] 0)
 (hQ:∀v e,e.get cb=an (ic (pr D) (o_ s d lo hi' T)) 0->hO cb H e->Q v e):bK (pc 340 3) (gC [] Q) F H:=by
 obtain⟨dv,cf⟩:=zz hn W;have du:=W.1;obtain⟨S,P,dk,X⟩:=cf i aa;rw[es]at P dk X;rw[ed]at S X;simp only[go_sem,ak 340 Tryz.f340 3,f3,g0];refine dD.mono ?_ (al_ D H);rintro _ _ ⟨rfl,rfl⟩;simp only[go_sem,ak 340 Tryz.f340 2];refine awp 400 [] [.ptr H.ag 0] eJ λn0 c1 c2=>?_
 obtain⟨o,G⟩:∃o,o=H.push (an [bf D] 0):=⟨_,rfl⟩;have a6:o.ag=b+6:=by rw[G];show H.ag+1=_;omega
 have ad:∀y,y<b+5->o.get y=H.get y:=λy c=>by rw[G,ah.bl,ao aa]
 have dE:o.get (b+5)=an [bf D] 0:=by rw[G,ah.bl,ay a4]
 rw[<-G,a4];clear G;rw[a6];generalize C:put _ (some 23) _=w
 have a8:rd 4 w=.ptr (b+1) 0:=by rw[<-C];simp only[go_sem,f4]
 have da:rd 3 w=.ptr b 0:=by rw[<-C];simp only[go_sem,f3]
 have db:rd 5 w=.ptr (b+2) 0:=by rw[<-C];simp only[go_sem,f5]
 have dd:rd 6 w=.ptr (b+3) 0:=by rw[<-C];simp only[go_sem,f6]
 have df:rd 7 w=.ptr (b+4) 0:=by rw[<-C];simp only[go_sem,f7]
 clear C;show dD _ _ _ [.jZ (b+6),.ptr (b+5) 0] _ _;obtain⟨L,h⟩:∃L:uk,L=⟨n0,w,[24,25],ED 340,rD 340,0,none⟩:=⟨_,rfl⟩;rw[<-h];have a7:(o.push (.bW (.loop L))).ag=b+7:=by show o.ag+1=_;omega
 refine dD.mono ?_ (amx D ⟨aa,aa,λj=>?_,aa⟩ (b+6) (b+5) (Vh L (b+6) cb (pr D) s d lo hi' T o) _ aa ?_ ?_ ?_ ?_)
 .rintro v e ⟨A,E,u,v4⟩;refine⟨L,Be A,by grind,.norm,by rw[h];rfl,hQ _ _ ?_ ⟨λy c t=>?_,?_⟩⟩
  .rw[ah.aT,ao aa,E];rw[XA λj O=>awd O]
  .rw[ah.aT,ao aa,u y aa t,ad y aa]
  .show H.ag<=e.ag;omega
 .grind
 .rintro m e ⟨A,E,u,v4⟩
  grind
 .rintro m e M ⟨A,E,u,v4⟩ B h2;rw[a7]at B h2;exact⟨(B _ aa).trans A,(B _ aa).trans E,λy c z=>(B y aa).trans (u y c z),aa⟩
 .refine⟨by rw[ah.bl,ay a6],?_,λy c z=>by rw[ah.bl,ao aa],aa⟩;rw[awh,ah.bl,ao aa,ad cb aa];exact gc
 .rintro a J e Y B h2 O bv;rw[a7]at B;have ab:=vh D a Y;have Z:=amk hn W Y hi;rw[es,ed]at Z;obtain⟨m,hm⟩:∃m,m=dR D a:=⟨_,rfl⟩;rw[<-hm]at ab Z O⊢;obtain⟨A,E,u,v4⟩:=O;have c0:∀y,y<b+5->y≠cb->e.get y=H.get y:=λy c t=>(u y aa t).trans (ad y c)
  refine W3 hT b_ fI (Be A) (F:=put (put w (some 24) (aj m)) (some 25) (.slice J 0 D.length (.known D.length))) (by rw[h];rfl) (ka:=pc 340 0) (kb:=pc 340 1) (by rw[h];kernel_rfl) (by rw[h];kernel_rfl) (by rw[h];kernel_rfl) (by rw[h];kernel_rfl) (by rw[h];exact c1) (by rw[h];exact c2) ?_;simp only[go_sem,ak 340 Tryz.f340 0];refine⟨L,Be A,by rw[h],?_⟩;obtain⟨l,I⟩:∃l,l=e.set (b+6) (.bW (.loop { L with st:=1 })):=⟨_,rfl⟩;rw[<-I];have K:∀y,y≠b+6->l.get y=e.get y:=λy c=>by rw[I,ah.aT,ao (Ne.symm c)]
  have a5:l.get (b+6)=.bW (.loop { L with st:=1 }):=by rw[I,ah.aT,ay rfl]
  have dC:l.ag=e.ag:=by rw[I];rfl
  clear I;have r:∀y,y<b+5->y≠cb->l.get y=H.get y:=λy c z=>(K y aa).trans (c0 y c z)
  have t0:=(r b aa aa).trans g0;have t1:=(r (b+1) aa aa).trans g1;have t2:=(r (b+2) aa aa).trans g2;have t3:=(r (b+3) aa aa).trans g3;have t4:=(r (b+4) aa aa).trans g4;have ae:=(K J aa).trans bv;have e1:dO none 1 [.slice J 0 D.length (.known D.length),aj i]=some (.val (.ptr J (0+(i:Int).toNat*1))):=cH aa;have e2:dw (bL a) i=some (aj (jM s d m:Nat)):=by rw[jc (by rw[Y.1];omega),Z]
  have bQ:∀x:V,oL [.func 341 [] [.ptr p 0,.ptr q 0],x]=some (.fn 341,[x,.ptr p 0,.ptr q 0]):=λ_=>rfl
  by_cases N:jM s d m=0
  .have R:(((jM s d m:Nat):Int)=0)=True:=eq_true aa;obtain⟨u1,u2⟩:=ap9 (lo:=lo) (hi:=hi') (T:=T) P S N;have hb:qN (pr D) m s d:=⟨aa,S,⟨P,aa⟩,X m ab N⟩;have hl:mu cb (pr D) m s d (pT s d lo hi' T m) (λk=>T (m+k*s)) l:=⟨by grind,aa⟩;have ce:GT l:=hg.keep λy c=>r y aa aa
   simp only[go_sem,ak 340 Tryz.f340 1,da,a8,db,dd,df,t0,t1,t2,t3,t4,ae,e1,e2,R,bQ];refine dD.mono ?_ (ap_ hb hl ce a' (p:=p) (q:=q) aa aa ((r p aa hp.2).trans b1) ((r q aa hw.2).trans b2) (hq m ab N));rintro v M ⟨l2,U⟩;have k2:∀y,y<e.ag->y≠cb->M.get y=l.get y:=λy c z=>U.1 y aa z
   simp only[go_sem];refine⟨_,Be ((k2 (b+6) aa aa).trans a5),rfl,?_,?_,?_,?_,λy c t=>?_,?_⟩
   .rw[ao aa,k2 J aa aa];exact ae
   .show e.ag<=M.ag;have:=U.2;omega
   .rw[ah.aT,ay rfl,h];rfl
   .rw[ah.aT,ao aa,l2.g,u2]
   .rw[ah.aT,ao aa,k2 y aa t,K y aa];exact u y c t
   .show b+6<M.ag;have:=U.2;omega
  .have R:(((jM s d m:Nat):Int)=0)=False:=eq_false aa;simp only[go_sem,ak 340 Tryz.f340 1,a8,t1,ae,e1,e2,R];refine⟨_,Be a5,rfl,?_,?_,?_,?_,λy c t=>?_,?_⟩
   .rw[ao aa]
   .omega
   .rw[ah.aT,ay rfl,h];rfl
   .rw[ah.aT,ao aa,K cb aa,E,awg P N]
   .rw[ah.aT,ao aa,K y aa];exact u y c t
   .show b+6<l.ag;omega
set_option maxHeartbeats 1000000 in
theorem awj(g:n=1\/n=2)(b:nL n D)(hi:i<n)(A:(fm D).getD i 0=s)(z:D.getD i 0=d){H:ah}(l:List e4)(G:GT H)(x:5<=cb)(o:cb<H.ag)(r:p<H.ag/\p≠cb)(t:q<H.ag/\q≠cb)
 (B:H.get cb=an (ic (pr D) T) 0) (C:H.get p=an [.str (aO lo),.str (aO hi')] 0) (E:H.get q=an [.str (aO (hi'-lo))] 0) (I:∀f,f<pr D->jM s d f=0->yC (aM 240) d lo (hi'-lo) λk=>T (f+k*s)):
 dm 340 [.agg [bE bZ l,bf D,.slice cb 0 (pr D) (.known (pr D))],aj i,.func 341 [] [.ptr p 0,.ptr q 0]] H λ_ c=>c.get cb=an (ic (pr D) (o_ s d lo hi' T)) 0/\hO cb H c:=by
 have O:=b.1;have P:af (fm D)=n:=by have:=v5 g (P:=λD=>af (fm D)=D.length) ai ai b;omega
 have J:=T_ g b;have L:=j8 (l:=fm D) (i:=(i:Int)) (k:=.i64) aa;have u:=j8 (l:=D) (i:=(i:Int)) (k:=.i64) aa;have M:dw (bL (fm D)) i=some (aj s):=by grind [jc]
 have w:dw (bL D) i=some (aj d):=by grind [jc]
 refine lX Tryz.f340 (h:=?_);simp(disch:=omega)only[go_sem,aV 340 Tryz.f340,ak 340 Tryz.f340 4,jm Tryz.f340,g6,u,w];refine use J ?_;simp(disch:=omega)only[go_sem,g6,L,u,M,w];generalize e:ah.set _ (H.ag+1+1+1+1) _=j
 have a:∀y,y<H.ag->j.get y=H.get y:=λy h=>by rw[<-e];simp(disch:=omega)only[go_sem,g6]
 have N:j.ag=H.ag+5:=by rw[<-e];simp only[go_sem]
 refine awi g b hi A z (b:=H.ag) (oK:=bE bZ l) (cb:=cb) (p:=p) (q:=q) (lo:=lo) (hi':=hi') (T:=T) (G.keep λy h=>a y aa) x o r t N ((a cb o).trans B) ((a p r.1).trans C) ((a q t.1).trans E) I ?_ ?_ ?_ ?_ ?_ ?_ ?_ ?_ ?_ ?_ λv c F m=>⟨F,λy h K=>(m.1 y aa K).trans (a y h),by have:=m.2;omega⟩
 all_goals first|(simp only[go_sem];done)|(rw[<-e];simp(disch:=omega)only[go_sem,g6])
end
end
def Xu(l:List e4)(hl:0<af l/\af l<=1000):bm 198 [bE bZ l] (bE bZ l):=by
 refine nF (.f1 (hH lZ l)) (eM Tryz.f198 (h:=?_));have b:pI false (.slice 45) [bE bZ l,.aA]=some (.val aR):=by cases l with|nil=>exact absurd hl.1 ai|cons s l=>rfl
 simp only[go_sem,b];refine xM (n:=af l) (cs:=c3 bZ l) ?_ hl.1 (lN bZ mm l) ai ⟨aa,ai⟩ λw c a d e=>?_
 .simp only[go_sem]
 simp only[go_sem];exact⟨_,uV mm ai a (dn.refl _) (λy f g=>ah.hL _ _) (lN bZ mm l),hH lZ l,rfl⟩
def oO(N:Nat)(T:Nat->Rat):List aW:=(kZ N).map λi=>aO (T i)
def XC(N:Nat)(T:Nat->Rat):ic N T=o6 (oO N T):=by unfold ic o6 oO;rw[List.map_map];rfl
def GA(N:Nat)(T:Nat->Rat):af (oO N T)=N:=by unfold oO;rw[gD,rT]
def gP(n:Nat)(p:aF)(l:List (Rat×Rat)):Nat->Rat:=rq (fm (c8 n p)) (c8 n p) l (jP (c8 n p) p λ_=>0) n
structure xm (p:List b9) (l:List (Rat×Rat)):Prop where
 l:∀q∈l,bF 5765760 103783680 q.1/\bF 5765760 103783680 q.2
 p:∀t∈p,bF 360360 16216200 t.1
def Sj{V:Nat}{q:Rat×Rat}(c:a<=2)(hT:∀j,bF d V (L j))(b:bF 5765760 103783680 q.1/\bF 5765760 103783680 q.2)(i:d≠0)(e:d*5765760*5765760*2<2^240)(g:14*V*207567360*207567360<2^240):
 (∀f s,yC (aM 240) a q.1 (q.2-q.1) λj=>L (f+j*s))/\∀s j,bF (d*5765760*5765760*2) (14*V*207567360*207567360) (o_ s a q.1 q.2 L j):=by
 have m:bF 5765760 207567360 (q.2-q.1):=by rw[Rat.sub_eq_add_neg];exact b.2.add b.1.neg
 have l:=b.1.mono (W:=207567360) ai;have h:=λf s=>aqt (y:=λj=>L (f+j*s)) c i ai ai e g ai (λk _=>hT _) l m
 refine⟨λf s=>(h f s).1,λs j=>?_⟩;have:=(h (mF s a j) s).2 (jM s a j) (IG s a j);rwa[R6 a c q.1 q.2 _ _ (IG s a j)]at this
def Bn(h:iJ a k u)(g:xm k u):(∀b,b<a->∀f s,yC (aM 240) ((c8 a k).getD b 0) (u.getD b (0,0)).1 ((u.getD b (0,0)).2-(u.getD b (0,0)).1) λj=>rq (fm (c8 a k)) (c8 a k) u (jP (c8 a k) k λ_=>0) b (f+j*s))/\∀j,aM 240 (gP a k u j):=by
 have q:=h.bC;have i:∀b,(c8 a k).getD b 0<=2:=λb=>by
  rw[bT];cases e:(c8 a k)[b]? with
  |none=>exact cj _
  |some x=>exact q.2 x (fL e)
 have hl:∀b,b<a->u.getD b (0,0)∈u:=λb m=>by obtain⟨x,t,e⟩:=gw (show b<af u by have:=h.eK;omega);rw[bT,e];exact t
 have v:∀j,bF 360360 16216200 (jP (c8 a k) k (λ_=>0) j):=Uh k _ (λ_=>⟨0,by rw[Rat.zero_mul];rfl,ai⟩) g.p;have r:=h.hn;obtain⟨d,c⟩:=Sj (i 0) v (g.l _ (hl 0 aa)) ai ai ai;have c:=c ((fm (c8 a k)).getD 0 0);rcases r with rfl|rfl
 .refine⟨λb m f s=>?_,λj=>(c j).rC ai ai ai⟩;obtain rfl:b=0:=aa;exact d f s
 .obtain⟨n,o⟩:=Sj (i 1) c (g.l _ (hl 1 aa)) ai ai ai;refine⟨λb m f s=>?_,λj=>(o _ j).rC ai ai ai⟩;rcases(by omega:b=0\/b=1)with rfl|rfl
  .exact d f s
  .exact n f s
def xA(S e:av):Nat->Nat
 |0=>0
 |k+1=>xA S e k+e.getD k 0*S.getD k 0
def Lq{e:av}(a:∀k,g.getD k 0<=9)(b:∀k,e.getD k 0<=2):∀k,xA g e k<=18*k
 |0=>aJ _
 |k+1=>by have:=Lq a b k;have:=iP (b k) (a k);show xA g e k+e.getD k 0*g.getD k 0<=_;omega
def VY(h:a=1\/a=2){e:av}(f:nL a g)(c:af e=a):xA (fm g) e a=dR g e:=by
 obtain⟨hl,_⟩:=f;rcases h with rfl|rfl
 .match g,e,hl,c with
  |[d],[x],_,_=>show 0+x*1=x*1+0;omega
 .match g,e,hl,c with
  |[d,b],[x,y],_,_=>show 0+x*((b+1)*1)+y*1=x*((b+1)*1)+(y*1+0);omega
theorem avk(h:k[a]? =some N)(T:Nat->Rat):jP g (k.take (a+1)) T=fR (jP g (k.take a) T) (dR g N.2) N.1:=by unfold jP;rw[vq h,List.foldl_append];rfl
theorem au5(c:a=1\/a=2)(b:nL a g):af (fm g)=a/\∀k,(fm g).getD k 0<=9:=by
 have f:=v5 c (P:=λg=>af (fm g)=g.length) ai ai b;have d:=zz c b;have hl:=b.1;refine⟨aa,λk=>?_⟩;by_cases e:k<g.length
 .exact(d.2 k e).2.2.1
 grind
set_option maxHeartbeats 2000000 in
theorem aqA{n:Nat}{p:aF}{l:List (Rat×Rat)}(h:iJ n p l)(g:xm p l):cU 281 [gV n p,bE bZ (l.map jD)] (.aH [.agg [bE bZ (l.map jD),bf (c8 n p),iM (oO (pr (c8 n p)) (gP n p l))],aj 0]):=by
 have K:=h.hn;have A:=h.bC;have ea:=h.hl;have ch:=h.eK;obtain⟨cf,c0⟩:=zz K A;obtain⟨df,am⟩:=au5 K A;have Z:=Xl h;have c2:=Xu (l.map jD) b4;have ab:=h.PC;have a1:=GG K A;have a2:=T_ K A;have hq:=(Bn h g).1;have a7:∀d∈p,jn (c8 n p) d.2:=λd S=>⟨(h.hp.t d S).len.trans A.1.symm,λi=>by
  by_cases hi:i<n
  .have:(c8 n p).getD i 0=n3 p i:=by unfold c8;rw[bT,hY,p4 hi];rfl
   rw[this];exact RZ S i
  .rw[bT,lA (by rw[(h.hp.t d S).len];omega)];exact cj _⟩
 have a4:1<=pr (c8 n p):=by have:=vh (c8 n p) (aZ (af (c8 n p)) 0) ⟨ux ..,λi=>by grind⟩;omega
 obtain⟨D,cb⟩:∃D,D=c8 n p:=⟨_,rfl⟩;unfold gP;rw[<-cb]at A cf c0 df am ab a1 a2 hq a7 a4⊢;obtain⟨N,G⟩:∃N,N=pr D:=⟨_,rfl⟩;have a8:=G▸a4;have ac:bA (.aH [.agg [bE bZ (l.map jD),bf D,iM (oO (pr D) (rq (fm D) D l (jP D p λ_=>0) n))],aj 0]):=.aH (.f2 (.agg (.f3 (hH lZ _) (n6 _) (.row _ (q3 _)))) .ii);obtain⟨r,P⟩:∃r,r=bE bZ (l.map jD):=⟨_,rfl⟩;have eK:di r=some (.val (aj n)):=by rw[P];unfold bE;rw[gD,ch];rfl
 have M:bM r=true/\cellsOf r=[r]/\V.one r=true:=by rw[P];exact⟨rfl,rfl,rfl⟩
 refine dg (.f2 (we _ _) (hH lZ _)) (lX k6 (h:=?_));rw[<-P]at Z c2 ac⊢;simp only[gV,ee]at Z ab⊢;simp only[go_sem,aV 281 k6,ak 281 k6 19,jm k6];refine bq Z bH ?_;simp only[go_sem,ak 281 k6 18];refine use c2 ?_;simp only[go_sem];refine use ab ?_;simp only[go_sem,ak 281 k6 17,M];refine use a1 ?_;simp only[go_sem,ak 281 k6 16,<-G];refine dD.mono ?_ (atk N ⟨a8,aa⟩ _ 8 (jI rfl) eJ);rintro _ E ⟨rfl,u1,L,u3⟩;have a5:GT E:=GT.keep bH λy o=>L y ff
 simp only[go_sem]at u1 L u3;have ad:E.get 5=an [aj n,fq p] 0:=(L 5 ai).trans eJ;have I:E.get 6=an [.aA,.aA,.aA] 0:=(L 6 ai).trans eJ;have bp:E.get 7=an [r,bf D,.aA] 0:=(L 7 ai).trans eJ;have n1:E.ag=10:=u3;clear L u3;simp only[go_sem,ak 281 k6 15,bp,M];refine use a2 ?_;simp only[go_sem,ak 281 k6 14,ad,M];obtain⟨x,z⟩:∃x,x=E.set 7 (an [r,bf D,.slice 9 0 N (.known N)] 0):=⟨_,rfl⟩;have ci:GT x:=by rw[z];exact a5.set ai _
 have el:x.get 5=an [aj n,fq p] 0:=by rw[z,ah.aT,ao ai];exact ad
 have d1:x.get 6=an [.aA,.aA,.aA] 0:=by rw[z,ah.aT,ao ai];exact I
 have d2:x.get 7=an [r,bf D,.slice 9 0 N (.known N)] 0:=by rw[z,ah.aT,ay rfl]
 have d3:x.get 9=an (ic N λ_=>0) 0:=by rw[z,ah.aT,ao ai];exact u1
 have n2:x.ag=10:=by rw[z];exact n1
 rw[<-z];clear z u1 ad I bp a5 n1;simp only[ak 281 k6 7,ak 281 k6 6,ak 281 k6 5,ak 281 k6 4];refine each (af p) [4,7,10,45,46] 7 (λm _ j=>j.get 7=an [r,bf D,.slice 9 0 N (.known N)] 0/\j.get 9=an (ic N (jP D (p.take m) λ_=>0)) 0/\10<=j.ag) ?_ ?_ aa ai aa (λ_ _ _ _ _ _ h=>h) ⟨d2,d3,aa⟩ ?_ ?_
 iterate 2 simp only[go_sem]
 .rintro m bv j hm s hh hi ⟨bp,e3,W⟩;simp only[go_sem]at s;obtain⟨d,ap,S⟩:=gw hm;have tl:=(h.hp.t d ap).len;have te:=h.he d ap;have ds:=zn (l:=p) (i:=(m:Int)) (k:=.i64) aa;have d5:=Fy S;have ll:di (bf d.2)=some (.val (aj n)):=by rw[<-tl];rfl
  simp only[go_sem,s,hi,ds,d5,vD,ll];simp only[ak 281 k6 3,ak 281 k6 2,ak 281 k6 1,ak 281 k6 0];obtain⟨c,T⟩:∃c,c=(j.push (an [.str [],.aA] 0)).set j.ag (an [.str (aO d.1),bf d.2] 0):=⟨_,rfl⟩;have dt:∀y,y<j.ag->c.get y=j.get y:=λy o=>by simp_all [ah.aT,ao,ah.bl];omega
  have b':c.get j.ag=an [.str (aO d.1),bf d.2] 0:=by rw[T,ah.aT,ay rfl]
  have ed:c.ag=j.ag+1:=by rw[T];rfl
  rw[<-T];clear T;refine each n [4,7,10,12,45,46,47,52,53] c.ag (λk F _=>rd 13 F=aj (xA (fm D) d.2 k:Nat)) ?_ ?_ aa ai (aJ _) (λm F H u v hu e=>by rcases hu with rfl|rfl|rfl<;>(simp only[go_sem];exact e)) ?_ ?_ ?_
  iterate 2 simp only[go_sem]
  .simp only[go_sem];rfl
  .rintro k b1 w al R J cs U;simp only[go_sem,s,hi]at R;have d9:=Lq am te k;have d':=iP (te k) (am k);have i1:=j8 (l:=d.2) (i:=(k:Int)) (k:=.i64) aa;have i2:=j8 (l:=fm D) (i:=(k:Int)) (k:=.i64) aa;have l1:=jc (l:=d.2) (i:=k) aa;have l2:=jc (l:=fm D) (i:=k) aa;have w1:aE .i64 (((d.2.getD k 0:Nat):Int)*(((fm D).getD k 0:Nat):Int))=((d.2.getD k 0*(fm D).getD k 0:Nat):Int):=by rw[<-fF];exact aK _ aa
   have w2:aE .i64 (((xA (fm D) d.2 k:Nat):Int)+((d.2.getD k 0*(fm D).getD k 0:Nat):Int))=((xA (fm D) d.2 (k+1):Nat):Int):=by rw[<-Int.natCast_add];exact aK _ aa
   simp only[go_sem,s,R,hi,cs,U,i1,i2,l1,l2,w1,w2];exact J
  .rintro b1 w R J U;simp only[go_sem,s,hi]at R;rw[VY K A tl]at U;have c':=vh D d.2 (a7 d ap);rw[<-G]at c';have C:∀y,y<j.ag->w.get y=j.get y:=λy o=>(J.1 y aa).trans (dt y o)
   have Y:=(J.1 j.ag aa).trans b';have cd:=(C 7 aa).trans bp;have akQ:=(C 9 aa).trans e3;have i3:dO none 1 [.slice 9 0 N (.known N),aj (dR D d.2:Nat)]=some (.val (.ptr 9 (0+((dR D d.2:Nat):Int).toNat*1))):=cH aa;have sp:dj [.str (aO d.1)] (ic N (jP D (p.take m) λ_=>0)) (dR D d.2)=some (ic N (jP D (p.take (m+1)) λ_=>0)):=by grind [fE,Gy,MS,avk]
   simp only[go_sem,s,R,hi,U,Y,cd,akQ,i3,sp];refine⟨⟨λy o=>?_,by show 7<=w.ag;have:=J.2;omega⟩,by show 10<=w.ag;have:=J.2;omega⟩;rw[ah.aT,ao aa,C y aa];exact hh.1 y o
 .rintro bv j s hh ⟨bp,e3,W⟩;simp only[go_sem]at s;rw[qM]at e3;have a6:GT j:=ci.keep λy o=>hh.1 y aa
  have I:=(hh.1 6 ai).trans d1;simp only[go_sem,ak 281 k6 13,s,bp,eK];simp only[ak 281 k6 11,ak 281 k6 10,ak 281 k6 9,ak 281 k6 8];refine each n [4,7,76,77] 7 (λk _ c=>c.get 7=an [r,bf D,.slice 9 0 N (.known N)] 0/\c.get 9=an (ic N (rq (fm D) D l (jP D p λ_=>0) k)) 0/\10<=c.ag) ?_ ?_ aa ai aa (λ_ _ _ _ _ _ h=>h) ⟨bp,e3,W⟩ ?_ ?_
  iterate 2 simp only[go_sem]
  .rintro k b0 c al B Q ae ⟨bp,e3,W⟩;simp only[go_sem,s]at B;obtain⟨q,dd,db⟩:=gw (aa:k<af l);have da:l.getD k (0,0)=q:=by rw[bT,db];rfl
   obtain⟨s1,s2,em⟩:=h.hb q dd;have a':=au_ (aO q.2) (aO q.1) (qD s2 ai) (qD s1 ai) (a:=81) (b:=81) (by rw[eT];exact s2) (by rw[eT];exact s1) ai;rw[eT,eT]at a';have X:GT c:=a6.keep λy o=>Q.1 y aa
   have bb:=iq (f:=bZ) (k:=2) (l:=l.map jD) (i:=(k:Int)) (ik:=.i64) b4;have be:=jO mm (show(l.map jD)[k]? =some (jD q) by grind);rw[<-P]at bb;have mk:∀a b:Nat,zE 341 0 [.ptr a 0,.ptr b 0]=some (.val (.func 341 [] [.ptr a 0,.ptr b 0])):=λ_ _=>rfl
   have dT:=ek (aa:7<c.ag);have d0:=ek (aa:7<c.ag+1);have co:GT ((c.push (an [.str [],.str []] 0)).set c.ag (an [.str (aO q.1),.str (aO q.2)] 0)):=(X.push aa _).set aa _;simp only[bZ,jD]at be;simp(disch:=omega)only[go_sem,B,ae,bb,be];refine bq a' co ?_;simp(disch:=omega)only[go_sem,B,ae,g6,dT,d0,bp,M,mk];generalize O:ah.set _ (c.ag+1) _=w
   have C:∀y,y<c.ag->w.get y=c.get y:=λy o=>by rw[<-O];simp(disch:=omega)only[go_sem,g6]
   have Y:w.get c.ag=an [.str (aO q.1),.str (aO q.2)] 0:=by rw[<-O];simp(disch:=omega)only[go_sem,g6]
   have ca:w.get (c.ag+1)=an [.str (aO (q.2-q.1))] 0:=by rw[<-O];simp only[go_sem]
   have eh:w.ag=c.ag+2:=by rw[<-O];simp only[go_sem]
   clear O;have cp:w.get 9=an (ic (pr D) (rq (fm D) D l (jP D p λ_=>0) k)) 0:=by rw[C 9 aa,<-G];exact e3
   have hv:=awj K A al rfl rfl (T:=rq (fm D) D l (jP D p λ_=>0) k) (lo:=q.1) (hi':=q.2) (cb:=9) (p:=c.ag) (q:=c.ag+1) (H:=w) (l.map jD) (X.keep λy o=>C y aa) ai aa aa aa cp Y ca (λf _ _=>by have:=hq k al f ((fm D).getD k 0);grind);rw[<-P,<-G]at hv;refine dD.mono ?_ hv;rintro v b2 ⟨v1,fx⟩;have bc:∀y,y<c.ag->y≠9->b2.get y=c.get y:=λy o h9=>(fx.1 y aa h9).trans (C y o)
   have:=fx.2;simp only[go_sem,s,B,ae];refine⟨⟨λy o=>(bc y aa aa).trans (Q.1 y o),aa⟩,(bc 7 aa ai).trans bp,?_,aa⟩;rw[v1];show dU.cells (ic N (o_ _ _ q.1 q.2 _)) 0=dU.cells (ic N (o_ _ _ (l.getD k (0,0)).1 (l.getD k (0,0)).2 _)) 0;rw[da]
  .rintro b0 c B Q ⟨bp,e3,W⟩;simp only[go_sem,s]at B;have I:=(Q.1 6 ai).trans I;have X:GT c:=a6.keep λy o=>Q.1 y aa
   simp only[go_sem,ak 281 k6 12,B,I,bp,M];rw[<-G]at ac;refine⟨X.set ai _,_,.aH (.f2 (.agg (.f3 .mm .mm (?_:bS _ _ _ (iM (oO N (rq (fm D) D l (jP D p λ_=>0) n)))))) .mm),ac,rfl⟩;unfold iM;rw[GA,<-XC];refine .row (m:=N) ?_ a8 ?_ (dn.refl _)
   .simp_all [fO,ah.aT,ao,e3,dQ,je,Gy]
   simp_all [ah.sq,lF,ao]
theorem aqP(c:Rat)(l:List Rat)(hl:af l<=9)(k:∀x∈c::l,aM 240 x):cU 346 [iM ((c::l).map aO),.func 57 [] []] (.str (aO (kC c l))):=by
 refine dg (.f2 (.row _ (q3 _)) (.func _ .nil .nil)) (lX uH (h:=?_));have t:di (iM ((c::l).map aO))=some (.val (aj (af l+1:Nat))):=by unfold iM;rw[gD];rfl
 have w:(((af l+1:Nat):Int)<1)=False:=eq_false aa;have E:dO none 1 [iM ((c::l).map aO),aj 0]=some (.val (.dY (o6 ((c::l).map aO)) 0)):=rfl;have z:dw (o6 ((c::l).map aO)) 0=some (.str (aO c)):=rfl;simp only[go_sem,aV 346 uH,ak 346 uH 6,ak 346 uH 5,ak 346 uH 4,jm uH,t,w,E,z];simp only[ak 346 uH 2,ak 346 uH 1,ak 346 uH 0];refine y_ (af l) (λm=>1+(m:Int)) [0,1] [5] 5 (λm F _=>rd 5 F=.str (aO (kC c (l.take m)))) ?_ (λm j=>Fo aa aa) ai (aJ 5) (λm F G H h e=>by grind [ye]) ?_ ?_ ?_ ?_
 .simp only[go_sem];rfl
 .simp only[go_sem];rfl
 .rintro m n o j d _ i f K A;simp only[go_sem]at d;simp only[go_sem,d,i,t];refine A _ ?_ ?_ ?_ ?_
  iterate 3 simp only[go_sem,d,i]
  .simp only[go_sem];simp_all;omega
 .rintro m n o j d hh i f;simp only[go_sem]at d;obtain⟨x,C,B⟩:=gw j;have g:=hh.gt e5;have q:=DO (λm c=>if e6 (c-m)<0 then c else m) c B;change kC c (l.take (m+1))=if e6 (x-kC c (l.take m))<0 then x else kC c (l.take m)at q
  have u:aM 240 (kC c (l.take m)):=Em _ c (k c (uy ..)) λy D=>k y (pq _ (oD D))
  have v:=k x (pq _ C);have s:=tA (aO x) (aO (kC c (l.take m))) (rK v) (rK u) (a:=240) (b:=240) (by rw[eT];exact v) (by rw[eT];exact u) ai;rw[eT,eT]at s;have bz:=uZ (l:=(c::l).map aO) (i:=1+(m:Int)) (k:=.i64) b4;have r:=vp (l:=(c::l).map aO) (i:=m+1) (s:=aO x) b4;rw[(aa:(1+(m:Int)).toNat*1=m+1)]at bz;have bQ:∀a b:V,oL [.func 57 [] [],a,b]=some (.fn 57,[a,b]):=λ_ _=>rfl
  rw[q];simp only[go_sem,d,i,f,bz,r,bQ];refine bq s g ?_;by_cases p:e6 (x-kC c (l.take m))<0
  .simp only[go_sem,d,i,bz,r,p];exact hh
  .simp only[go_sem,d,i,f,p];exact hh
 .rintro n o d hh f;rw[qM]at f;simp only[go_sem,ak 346 uH 3,f];exact bO (hh.gt e5) rfl (.str _)
theorem aqJ(c:Rat)(l:List Rat)(hl:af l<=9)(k:∀x∈c::l,aM 240 x):cU 347 [iM ((c::l).map aO),.func 57 [] []] (.str (aO (mb c l))):=by
 refine dg (.f2 (.row _ (q3 _)) (.func _ .nil .nil)) (lX uI (h:=?_));have t:di (iM ((c::l).map aO))=some (.val (aj (af l+1:Nat))):=by unfold iM;rw[gD];rfl
 have w:(((af l+1:Nat):Int)<1)=False:=eq_false aa;have E:dO none 1 [iM ((c::l).map aO),aj 0]=some (.val (.dY (o6 ((c::l).map aO)) 0)):=rfl;have z:dw (o6 ((c::l).map aO)) 0=some (.str (aO c)):=rfl;simp only[go_sem,aV 347 uI,ak 347 uI 6,ak 347 uI 5,ak 347 uI 4,jm uI,t,w,E,z];simp only[ak 347 uI 2,ak 347 uI 1,ak 347 uI 0];refine y_ (af l) (λm=>1+(m:Int)) [0,1] [5] 5 (λm F _=>rd 5 F=.str (aO (mb c (l.take m)))) ?_ (λm j=>Fo aa aa) ai (aJ 5) (λm F G H h e=>by grind [ye]) ?_ ?_ ?_ ?_
 .simp only[go_sem];rfl
 .simp only[go_sem];rfl
 .rintro m n o j d _ i f K A;simp only[go_sem]at d;simp only[go_sem,d,i,t];refine A _ ?_ ?_ ?_ ?_
  iterate 3 simp only[go_sem,d,i]
  .simp only[go_sem];simp_all;omega
 .rintro m n o j d hh i f;simp only[go_sem]at d;obtain⟨x,C,B⟩:=gw j;have g:=hh.gt e5;have q:=DO (λm c=>if 0<e6 (c-m)then c else m) c B;change mb c (l.take (m+1))=if 0<e6 (x-mb c (l.take m))then x else mb c (l.take m)at q
  have u:aM 240 (mb c (l.take m)):=Sq _ c (k c (uy ..)) λy D=>k y (pq _ (oD D))
  have v:=k x (pq _ C);have s:=tA (aO x) (aO (mb c (l.take m))) (rK v) (rK u) (a:=240) (b:=240) (by rw[eT];exact v) (by rw[eT];exact u) ai;rw[eT,eT]at s;have bz:=uZ (l:=(c::l).map aO) (i:=1+(m:Int)) (k:=.i64) b4;have r:=vp (l:=(c::l).map aO) (i:=m+1) (s:=aO x) b4;rw[(aa:(1+(m:Int)).toNat*1=m+1)]at bz;have bQ:∀a b:V,oL [.func 57 [] [],a,b]=some (.fn 57,[a,b]):=λ_ _=>rfl
  rw[q];simp only[go_sem,d,i,f,bz,r,bQ];refine bq s g ?_;by_cases p:0<e6 (x-mb c (l.take m))
  .simp only[go_sem,d,i,bz,r,p];exact hh
  .simp only[go_sem,d,i,f,p];exact hh
 .rintro n o d hh f;rw[qM]at f;simp only[go_sem,ak 347 uI 3,f];exact bO (hh.gt e5) rfl (.str _)
theorem arw(s:aW)(b:af s<=500)(h:(numOf s).isSome=true):cU 387 [.str s] aR:=by have a:=vw s b;rw[h]at a;refine dg (.f1 .ss) (eM Tryz.f387 (h:=?_));simp only[go_sem];refine bq a bH ?_;simp only[go_sem];exact bO bH rfl (.bool _)
theorem av6(o:a=1\/a=2)(e:nL a g)(l:List (Rat×Rat))(eK:af l=a)(E:∀q∈l,Aq q)(T:Nat->Rat)(K:∀j,aM 240 (T j)):cU 345 [.agg [bE bZ (l.map jD),bf g,iM (oO (pr g) T)]] cY:=by
 have b_:=(zz o e).1;have D:=e.1;have i:=LX l aa E;have v:=GG o e;have w:=ary 387 (oO (pr g) T) (by rw[GA];omega) λs F=>by
  unfold oO at F
  grind [arw,rK,I9]
 obtain⟨b,d⟩:∃b,b=bE bZ (l.map jD):=⟨_,rfl⟩;have t:di b=some (.val (aj a)):=by rw[d];unfold bE;rw[gD,eK];rfl
 have u:bM b=true/\cellsOf b=[b]/\V.one b=true:=by rw[d];exact⟨rfl,rfl,rfl⟩
 have B:bA b:=by rw[d];exact hH lZ _
 have k:di (bf g)=some (.val (aj a)):=by rw[<-D];rfl
 have I:di (iM (oO (pr g) T))=some (.val (aj (pr g:Int))):=by unfold iM;rw[GA];rfl
 have A:((6:Int)<(a:Int))=False:=eq_false aa;rw[<-d]at i⊢;refine dg (.f1 (.agg (.f3 B (n6 _) (.row _ (q3 _))))) (lX tg (h:=?_));simp only[go_sem,aV 345 tg,ak 345 tg 7,jm tg,u,t,k,A];refine bq i bH ?_;simp only[go_sem,ak 345 tg 6,k];simp only[ak 345 tg 3,ak 345 tg 2,ak 345 tg 1,ak 345 tg 0];refine each a [1,27,28] 6 (λ_ _ _=>True) ?_ ?_ aa ai (jI rfl) (λ_ _ _ _ _ _ h=>h) trivial ?_ ?_
 iterate 2 simp only[go_sem]
 .rintro m p r J c hh hi _;simp only[go_sem]at c;obtain⟨x,H,G⟩:=gw (aa:m<g.length);have L:=e.2 x H;have bz:=j8 (l:=g) (i:=(m:Int)) (k:=.i64) aa;have C:dw (bL g) m=some (aj x):=by rw[jc aa,bT,G];rfl
  have y:((x:Int)<0)=False:=eq_false aa;have z:((24:Int)<(x:Int))=False:=eq_false aa;simp only[go_sem,c,hi,bz,C,y,z];exact hh
 .rintro p r c hh _;simp only[go_sem]at c;have n:=hh.gt bH;have f:=(hh.1 5 ai).trans (show ah.get _ 5=an [b,bf g,iM (oO (pr g) T)] 0 by simp only[go_sem]);simp only[go_sem,ak 345 tg 5,c,f];refine use v ?_;simp only[go_sem,c,f,I];simp only[go_sem,ak 345 tg 4,c,f];refine bq w n ?_;simp only[go_sem];exact bO n rfl (.bool _)
def vals(N:Nat)(T:Nat->Rat):List Rat:=(kZ N).map T
def XE(N:Nat)(T:Nat->Rat):oO N T=(vals N T).map aO:=by unfold oO vals;rw[List.map_map];rfl
def Cp(b_:1<=a)(T:Nat->Rat):vals a T=T 0::(vals a T).tail/\(vals a T).tail.length=a-1:=by obtain⟨k,rfl⟩:∃k,a=k+1:=⟨a-1,aa⟩;unfold vals;rw[List.range_succ_eq_map];simp
def ju(n:Nat)(p:aF)(l:List (Rat×Rat)):Rat:=kC (gP n p l 0) (vals (pr (c8 n p)) (gP n p l)).tail
theorem Wv(h:iJ a k u)(g:xm k u):∃hi,cU 206 [gV a k,bE bZ (u.map jD)] (.aH [.agg [.str (aO (ju a k u)),.str hi],aj 0]):=by
 have q:=h.hn;have p:=h.bC;obtain⟨D,_⟩:=zz q p;have B:1<=pr (c8 a k):=by have:=vh (c8 a k) (aZ (af (c8 a k)) 0) ⟨ux ..,λi=>by grind⟩;omega
 have r:=(Bn h g).2;have e:=aqA h g;have l:=av6 q p u h.eK h.hb (gP a k u) r;obtain⟨y,E⟩:=Cp B (gP a k u);have z:∀x∈gP a k u 0::(vals (pr (c8 a k)) (gP a k u)).tail,aM 240 x:=λx s=>by rw[<-y]at s;obtain⟨i,_,rfl⟩:=g8.1 s;exact r i
 have d:=aqP (gP a k u 0) (vals (pr (c8 a k)) (gP a k u)).tail aa z;have f:=aqJ (gP a k u 0) (vals (pr (c8 a k)) (gP a k u)).tail aa z;rw[<-y,<-XE]at d f;change cU 346 _ (.str (aO (ju a k u)))at d;obtain⟨c,A⟩:∃c,c=oO (pr (c8 a k)) (gP a k u):=⟨_,rfl⟩;obtain⟨b,j⟩:∃b,b=bE bZ (u.map jD):=⟨_,rfl⟩;have m:bM b=true/\cellsOf b=[b]/\V.one b=true:=by rw[j];exact⟨rfl,rfl,rfl⟩
 have n:bA b:=by rw[j];exact hH lZ _
 have w:bM (iM c)=true/\cellsOf (iM c)=[iM c]/\V.one (iM c)=true:=⟨rfl,rfl,rfl⟩;refine⟨aO (mb (gP a k u 0) (vals (pr (c8 a k)) (gP a k u)).tail),?_⟩;rw[<-A]at e l d f;rw[<-j]at e l⊢;generalize mb (gP a k u 0) (vals (pr (c8 a k)) (gP a k u)).tail=v at f⊢
 generalize ju a k u=t at d⊢
 have o:bA (.aH [.agg [.str (aO t),.str (aO v)],aj 0]):=.aH (.f2 (.agg (.f2 .ss .ss)) .ii);have C:cU 282 [.agg [b,bf (c8 a k),iM c]] (.aH [.agg [.str (aO t),.str (aO v)],aj 0]):=by refine dg (.f1 (.agg (.f3 n (n6 _) (.row _ (q3 _))))) (eM Tryz.f282 (h:=?_));simp only[go_sem,m,w];refine bq l bH ?_;simp only[go_sem];refine bq d bH ?_;simp only[go_sem];refine bq f bH ?_;simp only[go_sem];exact bO bH rfl o
 refine dg (.f2 (we _ _) n) (eM Tryz.f206 (h:=?_));simp only[gV,ee]at e⊢;simp only[go_sem];refine bq e bH ?_;simp only[go_sem,m,w];refine bq C bH ?_;simp only[go_sem];exact bO bH rfl o
theorem J7{y:Rat}(a:y<=h):0<=e6 (h-y):=by
 rcases(by grind:y<h\/h=y)with e|e
 .rw[EX e];decide
 .subst e;rw[Rat.sub_self];decide
theorem alT{p:fM}(a:iJ p.n p.obj u)(g:xm p.obj u)(b:aM 81 h)(m:h<=ju p.n p.obj u):cU 143 [hC p,.str (aO h),ia (u.map jD),aj (-1)] (.aH [cY,aj 0]):=by
 obtain⟨hi,c⟩:=Wv a g;have e:aM 240 (ju p.n p.obj u):=Em _ _ ((Bn a g).2 0) λx o=>by obtain⟨i,_,rfl⟩:=g8.1 (List.mem_of_mem_tail o);exact(Bn a g).2 i
 have d:=tA (aO (ju p.n p.obj u)) (aO h) (rK e) (qD b ai) (a:=240) (b:=81) (by rw[eT];exact e) (by rw[eT];exact b) ai;rw[eT,eT]at d;have r:=J7 m;have f:(e6 (ju p.n p.obj u-h)<0)=False:=eq_false aa;have q:di (dc p.n p.is)=some (.val (aj p.is.length)):=rfl;have j:((-1:Int)<(p.is.length:Int))=True:=eq_true aa;have k:((-1:Int)<0)=True:=eq_true aa;have l:bA (.aH [cY,aj 0]):=.aH (.f2 .bb .ii);refine dg (.f4 (q2 p a.hn) .ss (qg _) .ii) (eM Tryz.f143 (h:=?_));simp only[gV,ee]at c;simp only[go_sem,hC,ia,q,j,k];refine bq c bH ?_;simp only[go_sem];refine bq d bH ?_;simp only[go_sem,f];exact bO bH rfl l
theorem alU{p:fM}(a:iJ p.n p.obj u)(g:xm p.obj u)(c:aM 81 h)(d:h<=ju p.n p.obj u):cU 80 [hC p,.str (aO h),ia (u.map jD),.agg (eS p.n (.leaf (.iS (-1))))] (.aH [cY,aj 0]):=by have hh:=alT a g c d;have b:bA (.aH [cY,aj 0]):=.aH (.f2 .bb .ii);refine dg (.f4 (q2 p a.hn) .ss (qg _) (.agg (zd _ _))) (eM Tryz.f80 (h:=?_));simp only[hC,ia]at hh;simp only[go_sem,hC,ia,eS];refine bq hh bH ?_;simp only[go_sem];exact bO bH rfl b
section
def ni(B:Nat)(H:ah)(v:V)(S:av):Prop:=∃b a,B<=b/\b<H.ag/\S.length<=af a/\a.take S.length=bL S/\
 ((v=.slice b 0 S.length (.known 1)/\af a=1/\H.get b=an a 0)\/∃g f,v=.slice b 0 S.length (.grown 1)/\B<=g/\0<B/\g≠b/\g<H.ag/\H.get b=an a g/\H.get g=.bV b f/\f<=b)
section
variable {B:Nat}{H:ah}{v:V}{S:av}
def ni.len(h:ni B H v S):di v=some (.val (aj S.length)):=by obtain⟨b,a,_,_,_,_,⟨rfl,_,_⟩|⟨g,f,rfl,_⟩⟩:=h<;>rfl
def ni.bM(h:ni B H v S):bM v=true/\cellsOf v=[v]/\V.one v=true:=by obtain⟨b,a,_,_,_,_,⟨rfl,_,_⟩|⟨g,f,rfl,_⟩⟩:=h<;>exact⟨rfl,rfl,rfl⟩
def ni.keep{H':ah}(h:ni B H v S)(d:∀y,y<H.ag->H'.get y=H.get y)(s:H.ag<=H'.ag):ni B H' v S:=by
 obtain⟨b,m,i,j,k,l,⟨e,a,c⟩|⟨g,f,e,a,c,p,q,r,n,o⟩⟩:=h
 .exact⟨b,m,i,aa,k,l,.inl ⟨e,a,(d b j).trans c⟩⟩
 .exact⟨b,m,i,aa,k,l,.inr ⟨g,f,e,a,c,p,aa,(d b j).trans r,(d g q).trans n,o⟩⟩
theorem ni.top(h:ni B H v (S++[a])):∃b,dO none 1 [v,aj S.length]=some (.val (.ptr b S.length))/\tM false 1 S.length H b (H.get b)=some (aj a):=by
 obtain⟨b,k,m,p,e,d,c⟩:=h;rw[bw]at e d c;have j:dw k S.length=some (aj a):=by have:=congrArg (λl=>l[S.length]?) d;simp only[List.getElem?_take,bL,vJ,iA]at this;rw[ay aa,vI b4,gD,nQ]at this;rw[iu];exact this
 refine⟨b,?_,?_⟩
 .rcases c with⟨rfl,_,_⟩|⟨g,f,rfl,_⟩<;>grind [cH,iA]
 .rcases c with⟨_,_,i⟩|⟨g,f,_,_,_,_,_,q,n,o⟩
  .rw[i,Bb (gJ.2 (.inl rfl)),j]
  grind [Bb,wB]
def ni.pop(h:ni B H v (S++[a])):∃l,slice3 (kG 1) false true false [v,aj S.length]=some (.val l)/\ni B H l S:=by
 obtain⟨b,d,e,i,m,n,k⟩:=h;have j:d.take S.length=bL S:=by have:=congrArg (List.take S.length) n;rw[List.take_take,bw,p7 aa]at this;rw[this,bL,vJ];exact s6 (by rw[gD])
 rw[bw,iA]at m k;rcases k with⟨rfl,c,o⟩|⟨g,f,rfl,c⟩
 .exact⟨_,tV aa,b,d,e,i,aa,j,.inl ⟨by rw[cg],c,o⟩⟩
 .exact⟨_,J_ aa,b,d,e,i,aa,j,.inr ⟨g,f,by rw[cg],c⟩⟩
theorem ni.push(h:ni B H v S)(R:S.length<=100)(I:B<=H.ag/\0<B)(c y:Nat)
 (w:∀D k,ni B k D (S++[c,y])->(∀z,z<B->k.get z=H.get z)->H.ag<=k.ag->s (put j x D) k):
 gW x s j (fU 1 8 [v,.slice H.ag 0 2 (.known 2)] (H.push (an [aj c,aj y] 0))):=by
 obtain⟨a,d⟩:∃a,a=H.push (an [aj c,aj y] 0):=⟨_,rfl⟩;have m:∀z,z<H.ag->a.get z=H.get z:=λz C=>by rw[d,ah.bl,ao aa]
 have T:a.ag=H.ag+1:=by rw[d];rfl
 have F:eu a 1 2 (.slice H.ag 0 2 (.known 2))=some [aj c,aj y]:=by show a.dz H.ag 0 (2*1)=_;rw[fO (cs:=[aj c,aj y]) (by rw[d,ah.bl,ay rfl])];rfl
 have G:fU 1 8 [v,.slice H.ag 0 2 (.known 2)] a=ku 1 8 v 2 [aj c,aj y] a:=by show aq (eu a 1 2 _) _=_;rw[F];rfl
 rw[<-d,G];have u:bL S++[aj c,aj y]=bL (S++[c,y]):=by simp[bL]
 have hl:af (S++[c,y])=S.length+2:=aI;have t:jx (S.length+2) 8=true:=q5 aa;obtain⟨b,E,N,O,K,L,M⟩:=h.keep m aa;have A:∀g,a.get b=an E g->a.gr b g=true->a.dz b 0 (S.length*1)=some (bL S):=λg d i=>by unfold ah.dz;rw[yW d i];show cW (eH E 0) (S.length*1)=_;rw[dQ,eD,fB,ay K,L]
 rcases M with⟨rfl,r,l⟩|⟨g,f,rfl,r,l,P,Q,p,q,J⟩
 .have n:=A 0 l (gJ.2 (.inl rfl));have i:ku 1 8 (.slice b 0 S.length (.known 1)) 2 [aj c,aj y] a=lG a 1 (S.length+2) (bL (S++[c,y])):=by show aX (jx (S.length+2) 8) (Bool.casesOn (motive:=λ_=>Option (V×ah)) (b6 (S.length+2) 1) (aq (a.dz b 0 (S.length*1)) λo=>lG a 1 (S.length+2) (dJ o [aj c,aj y])) (aq (a.fe b (gY 0 (fz S.length 1)) [aj c,aj y]) λH=>some (.slice b 0 (gY S.length 2) (.known 1),H)))=_;rw[t,n,show b6 (S.length+2) 1=false from mo.2 λe=>by have:=jI e;omega];show lG _ 1 _ (dJ (bL S) _)=_;rw[iW,u]
  rw[i];refine w _ _ ⟨a.ag,bL (S++[c,y]),aa,?_,?_,?_,.inr ⟨a.ag+1,a.ag,?_,aa,I.2,aa,?_,?_,?_,aJ _⟩⟩ (λz C=>?_) ?_
  .simp only[go_sem];omega
  .rw[jz];exact aJ _
  .grind
  .rw[hl]
  .simp only[go_sem];omega
  .rw[ah.bl,ao ff,ah.bl,ay rfl]
  .rw[ah.bl,ay eJ]
  .rw[ah.bl,ao ff,ah.bl,ao aa,m z aa]
  .simp only[go_sem];omega
 .have n:=A g p (wB q J);have i:ku 1 8 (.slice b 0 S.length (.grown 1)) 2 [aj c,aj y] a=some (.slice a.ag 0 (S.length+2) (.grown 1),(a.push (an (bL (S++[c,y])) g)).set g (.bV a.ag a.ag)):=by show aX (jx (S.length+2) 8) (aX (and (bt 1 1) true) (aq (a.dz b 0 (S.length*1)) λo=>oJ a 1 b (S.length+2) (dJ o _)))=_;rw[t,n];show oJ a 1 b (S.length+2) (dJ (bL S) _)=_;rw[iW,u];unfold oJ;rw[p];show dU.casesOn (motive:=λ_=>Option (V×ah)) (a.get g) _ _ _ _=_;rw[q];show aX (and (bt b b) (!(fN g))) _=_;rw[show bt b b=true from uA b,sv aa];rfl
  rw[i];refine w _ _ ⟨a.ag,bL (S++[c,y]),aa,?_,?_,?_,.inr ⟨g,a.ag,?_,r,l,aa,?_,?_,?_,aJ _⟩⟩ (λz C=>?_) ?_
  .simp only[go_sem];omega
  .rw[jz];exact aJ _
  .grind
  .rw[hl]
  .simp only[go_sem];omega
  .rw[ah.aT,ao aa,ah.bl,ay rfl]
  .rw[ah.aT,ay rfl]
  .rw[ah.aT,ao aa,ah.bl,ao aa,m z aa]
  .simp only[go_sem];omega
end
def auF:bm 81 [.aA] .undef:=eo eg (by kernel_rfl)
end
def iY(l:List dF):List (Rat×Rat):=l.map λx=>(x.lo,x.hi)
theorem JD(l:List dF):af (iY l)=af l:=gD ..
variable{Q:List dF}
def JC(h:a<af Q):(iY Q).getD a (0,0)=((Q.getD a fc).lo,(Q.getD a fc).hi):=by unfold iY;rw[bT,bT,hY,c4 h];rfl
def asx(h:Q.all jB=true):Q.map gB=(iY Q).map jD:=by
 unfold iY;rw[List.map_map];refine List.map_congr_left λx b=>?_
 have a:=qJ.1 h x b;unfold jB at a;rw[de]at a;show gB x=jD (x.lo,x.hi);unfold gB jD;rw[ay a.1,ay a.2]
def Q9{v:Nat}(z:dF)(b:v<af Q):(Q.set v z).getD a fc=if a=v then z else Q.getD a fc:=by
 rw[bT,rS];by_cases e:v=a
 .subst e;rw[ay rfl,ay b,ay rfl];rfl
 .rw[ao e,ao (Ne.symm e),bT]
def pW(r:List dF)(m:Nat)(l:List dF):Prop:=∀j,j<af l->bF (360360*m) (6486480*m) (l.getD j fc).lo/\bF (360360*m) (6486480*m) (l.getD j fc).hi/\(l.getD j fc).lo<(l.getD j fc).hi/\(r.getD j fc).lo<=(l.getD j fc).lo/\(l.getD j fc).hi<=(r.getD j fc).hi
theorem pW.half{l:List dF}{v:Nat}{a:Rat}(h:pW Q d l)(g:v<af l)(w:l.all jB=true)(x:vG (l.getD v fc) a)(s:tr a (l.getD v fc)):pW Q (d*4) (qk l v a)/\pW Q (d*4) (qx l v a):=by
 obtain⟨p,r,A,t,u⟩:=h v g;have c:jB (l.getD v fc)=true:=by rw[bT,c4 g];exact qJ.1 w _ (s5 g)
 unfold jB at c;rw[de]at c;have i:=x c.1 c.2 _ _ p r;rw[dx,dx]at i;have y:=s.1 c.1;have z:=s.2 c.2;have f:∀ {q:Rat},bF (360360*d) (6486480*d) q->bF (360360*(d*4)) (6486480*(d*4)) q:=λh=>by have:=h.up 4;rwa[dx,dx]at this
 constructor
 .intro j b;unfold qk at b⊢;rw[iO]at b;rw[Q9 _ g];by_cases e:j=v
  .subst e;rw[ay rfl];exact⟨f p,i,y,t,by show a<=_;grind⟩
  .rw[ao e];obtain⟨k,m,bX,n,o⟩:=h j b;exact⟨f k,f m,bX,n,o⟩
 .intro j b;unfold qx at b⊢;rw[iO]at b;rw[Q9 _ g];by_cases e:j=v
  .subst e;rw[ay rfl];exact⟨i,f r,z,by show _<=a;grind,u⟩
  .rw[ao e];obtain⟨k,m,bX,n,o⟩:=h j b;exact⟨f k,f m,bX,n,o⟩
def pW.up{l:List dF}{k:Nat}(h:pW Q d l):pW Q (d*k) l:=λj c=>by obtain⟨e,f,bX⟩:=h j c;have a:=e.up k;have b:=f.up k;rw[dx,dx]at a b;exact⟨a,b,bX⟩
structure vT (p:fM) (t:aY):Prop where
 bd:∀i,i<=2*t.s->(t.bs i).all jB=true
 n8:∀i,i<t.s->vG ((t.bs i).getD (t.v i) fc) (t.a i)
 rt:∀x∈t.bs 0,x.lo<x.hi/\CF true x
 gh:∀i,t.s<=i->i<=2*t.s->t.gh i=.iS (-1)
theorem vT.box{p:fM}{t:aY}(a:t.aG p)(c:vT p t):∀i,i<=2*t.s->pW (t.bs 0) 16 (t.bs i):=by
 have F:=a.s;have g:pW (t.bs 0) 1 (t.bs 0):=λj f=>by
  have z:(t.bs 0).getD j fc∈t.bs 0:=by rw[bT,c4 f];exact s5 f
  obtain⟨w,x,y,_⟩:=c.rt _ z;rw[eD,eD];exact⟨x,y,w,qS,qS⟩
 have st:∀n m,n<t.s->pW (t.bs 0) m (t.bs n)->pW (t.bs 0) (m*4) (t.bs (2*n+1))/\pW (t.bs 0) (m*4) (t.bs (2*n+2)):=λn m b h=>by rw[a.l n b,a.r n b];exact h.half (by rw[a.len n aa];exact a.v n b) (c.bd n aa) (c.n8 n b) (a.er n b)
 intro i hi;by_cases A:i=0
 .subst A;exact g.up (k:=16)
 .obtain⟨d,e⟩:=st 0 1 aa g;by_cases B:i=1
  .subst B;exact d.up (k:=4)
  .by_cases C:i=2
   .subst C;exact e.up (k:=4)
   .obtain⟨k,o⟩:=st 1 _ aa d;by_cases D:i=3
    .subst D;exact k
    .by_cases E:i=4
     .subst E;exact o
     .obtain⟨q,u⟩:=st 2 _ aa e;rcases(by omega:i=5\/i=6)with rfl|rfl
      .exact q
      .exact u
def Jb{p:fM}(a:p.aG):∀t∈p.obj,∀i,t.2.getD i 0<=2:=λt b i=>by have c:=(tP a.n t.2 (a.obj.2.1 t b).1).2;have:=zj t.2 i;omega
def S5{q:Rat×Rat}(h:q∈iY Q):∃j,j<af Q/\q=((Q.getD j fc).lo,(Q.getD j fc).hi):=by unfold iY at h;obtain⟨x,b,rfl⟩:=g8.1 h;obtain⟨j,a,rfl⟩:=List.getElem_of_mem b;exact⟨j,a,by rw[bT,c4 a];rfl⟩
def vT.Jr{p:fM}(c:p.aG){t:aY}(e:t.aG p)(g:vT p t)(hi:a<=2*t.s):iJ p.n p.obj (iY (t.bs a))/\xm p.obj (iY (t.bs a)):=by
 have f:=g.box e a hi;refine⟨⟨c.n,sD c.n ai c.obj,by have:=c.obj.2.2.1;omega,Jb c,by rw[JD];exact e.len a hi,λk d=>?_⟩,λk d=>?_,λu i=>c.obj.2.2.2 u i⟩
 .obtain⟨j,b,rfl⟩:=S5 d;have h:(t.bs a).getD j fc∈t.bs a:=by rw[bT,c4 b];exact s5 b
  obtain⟨l,m⟩:=e.q a hi _ h;exact⟨l,m,(f j b).2.2.1⟩
 .obtain⟨j,b,rfl⟩:=S5 d;exact⟨(f j b).1,(f j b).2.1⟩
section
theorem le_eq{y:Rat}(a:h=y):h<=y:=b4
def lo'(l:List (Rat×Rat))(i:Nat):Rat:=(l.getD i (0,0)).1
def hi'(l:List (Rat×Rat))(i:Nat):Rat:=(l.getD i (0,0)).2
def lY(n:Nat)(p:aF)(i:Nat):Nat:=(c8 n p).getD i 0
def si(n:Nat)(p:aF)(l:List (Rat×Rat))(a:Nat->Nat):Rat:=br (qs n (lY n p) (λi=>kE (lY n p i) (a i) (lo' l i) (hi' l i)) (λi=>kF (a i) (lo' l i) (hi' l i))) p
section
variable {n:Nat}{p:aF}{l:List (Rat×Rat)}
def iJ.IC(h:iJ n p l):∀a∈p,jn (c8 n p) a.2:=λa b=>⟨(h.hp.t a b).len.trans h.bC.1.symm,λi=>by
 by_cases hi:i<n
 .have:(c8 n p).getD i 0=n3 p i:=by unfold c8;rw[bT,hY,p4 hi];rfl
  rw[this];exact RZ b i
 .rw[bT,lA (by rw[(h.hp.t a b).len];omega)];exact cj _⟩
theorem iJ.aiV(h:iJ n p l):p.Pairwise (λa b=>a.2≠b.2):=h.hp.ord.imp λ{a b} h e=>by grind [arX]
def iJ.d2(h:iJ n p l)(i:Nat):lY n p i<=2:=by
 unfold lY;rw[bT];cases e:(c8 n p)[i]? with
 |none=>exact cj _
 |some x=>exact h.bC.2 x (fL e)
theorem Sk(h:iJ n p l){a:av}(f:jn (c8 n p) a):gP n p l (dR (c8 n p) a)=si n p l (λi=>a.getD i 0):=by
 have k:=h.d2;have o:=h.IC;have r:=h.aiV;have hl:=h.bC.1;have eK:=h.eK;unfold gP si lY at*;rcases h.hn with rfl|rfl
 .match e:c8 1 p,a,l,hl,f,eK with
  |[b],[c],[q],_,f,_=>
   rw[e]at k o;show rq [1] [b] [q] (jP [b] p λ_=>0) 1 (dR [b] [c])=_;rw[aqR (show b<=2 from k 0) (show c<=b from f.2 0) q p r o];refine tF λt _=>?_
   show _=fC b _ (kE b c q.1 q.2) (kF c q.1 q.2)*1;rw[uF]
 .match e:c8 2 p,a,l,hl,f,eK with
  |[b,d],[c,m],[g,j],_,f,_=>
   rw[e]at k o;show rq [(d+1)*1,1] [b,d] [g,j] (jP [b,d] p λ_=>0) 2 (dR [b,d] [c,m])=_;rw[aqS (show b<=2 from k 0) (show d<=2 from k 1) (show c<=b from f.2 0) (show m<=d from f.2 1) g j p r o];refine tF λt _=>?_
   show _=fC b _ (kE b c g.1 g.2) (kF c g.1 g.2)*fC d _ (kE d m j.1 j.2) (kF m j.1 j.2);exact Rat.mul_comm _ _
def FG(D:av):Prop:=(iV D).map (dR D)=kZ (pr D)/\∀a∈iV D,af a=D.length/\∀i,i<D.length->a.getD i 0<=D.getD i 0
instance(D:List Nat):Decidable (FG D):=by unfold FG;infer_instance
theorem D6(f:n=1\/n=2)(d:nL n g):(iV g).map (dR g)=kZ (pr g)/\∀a∈iV g,jn g a:=by
 obtain⟨b,c⟩:=v5 f (P:=FG) ai ai d;refine⟨b,λa e=>⟨(c a e).1,λi=>?_⟩⟩
 grind
theorem UF(h:iJ n p l):vals (pr (c8 n p)) (gP n p l)=(iV (c8 n p)).map λa=>si n p l (λi=>a.getD i 0):=by
 obtain⟨b,c⟩:=D6 h.hn h.bC;unfold vals
 grind [List.map_map,List.map_congr_left,Sk]
def EA:∀D:av,1<=pr D
 |[]=>aJ _
 |d::D=>s_ (mA d) (EA D)
def L_(h:iJ n p l):∃a,jn (c8 n p) a/\ju n p l=si n p l (λi=>a.getD i 0):=by
 obtain⟨f,_⟩:=Cp (EA (c8 n p)) (gP n p l);have e:=UF h;have c:∀x∈gP n p l 0::(vals (pr (c8 n p)) (gP n p l)).tail,∃a,jn (c8 n p) a/\x=si n p l (λi=>a.getD i 0):=λx b=>by rw[<-f,e]at b;obtain⟨a,d,rfl⟩:=g8.1 b;exact⟨a,(D6 h.hn h.bC).2 a d,rfl⟩
 unfold ju;exact Em (P:=λx=>∃a,jn (c8 n p) a/\x=si n p l (λi=>a.getD i 0)) _ _ (c _ (uy ..)) λx b=>c x (pq _ b)
theorem Wq(h:iJ n p l){a:Nat->Nat}(d:∀i,a i<=lY n p i):ju n p l<=si n p l a:=by
 obtain⟨j,_⟩:=Cp (EA (c8 n p)) (gP n p l);obtain⟨f,g⟩:=Sm (vals (pr (c8 n p)) (gP n p l)).tail (gP n p l 0);have e:∀x∈vals (pr (c8 n p)) (gP n p l),ju n p l<=x:=λx hx=>by
  rw[j]at hx;rcases jr.1 hx with rfl|hx
  .exact f
  .exact g x hx
 have hl:=h.bC.1;have c:jn (c8 n p) ((kZ n).map a):=⟨by grind,λi=>by
  rw[bT,hY];by_cases hi:i<n
  .rw[p4 hi];exact d i
  grind⟩
 have b:=e _ (g8.2 ⟨dR (c8 n p) ((kZ n).map a),List.mem_range.2 (vh _ _ c),rfl⟩);rw[Sk h c]at b;refine Rat.le_trans b (le_eq ?_);unfold si qs;rcases h.hn with rfl|rfl<;>rfl
theorem TR(h:iJ n p l)(i:Nat):lo' l i<=hi' l i:=by
 unfold lo' hi';by_cases hi:i<af l
 .have:=(h.hb _ (s5 hi)).2.2
  grind
 grind
def Ma(h:iJ n p l){U V:Nat->Rat}(a:∀i,lo' l i<=U i/\U i<=hi' l i)(b:∀i,lo' l i<=V i/\V i<=hi' l i):ju n p l<=br (qs n (lY n p) U V) p:=asj h.hn h.d2 p (λt d i=>(h.IC t d).2 i) (λ_ c=>Wq h c) a b
theorem Wr(h:iJ n p l)(b:iJ n p u)(d:∀i,lo' l i<=lo' u i/\hi' u i<=hi' l i):ju n p l<=ju n p u:=by
 obtain⟨a,c,e⟩:=L_ b;rw[e];have f:=TR b;refine Ma h (λi=>?_) (λi=>?_)
 .grind [ar8]
 grind [ar9]
def AA(n:Nat)(p:aF)(x:Nat->Rat):Rat:=br (λe=>x 0^e.getD 0 0*(if n=1 then 1 else x 1^e.getD 1 0)) p
theorem Wp(h:iJ n p l){x:Nat->Rat}(a:∀i,lo' l i<=x i/\x i<=hi' l i):ju n p l<=AA n p x:=by
 refine Rat.le_trans (Ma h a a) (le_eq (tF λt b=>?_));have c:=h.he t b;unfold qs
 grind [asm]
end
theorem Ws{p:fM}(g:p.aG)(h:iJ p.n p.obj u)(O:∀q∈u,bF 360360 6486480 q.1/\bF 360360 6486480 q.2):aM 81 (ju p.n p.obj u):=by
 obtain⟨a,N,e⟩:=L_ h;rw[e];have L:∀i,bF 360360 6486480 (lo' u i)/\bF 360360 6486480 (hi' u i):=λi=>by
  unfold lo' hi';by_cases hi:i<af u
  .grind
  .rw[bT,lA aa];exact⟨⟨0,by grind,ai⟩,⟨0,by grind,ai⟩⟩
 unfold si;obtain⟨U,v⟩:∃U:Nat->Rat,U=λi=>kE (lY p.n p.obj i) (a.getD i 0) (lo' u i) (hi' u i):=⟨_,rfl⟩
 obtain⟨V,w⟩:∃V:Nat->Rat,V=λi=>kF (a.getD i 0) (lo' u i) (hi' u i):=⟨_,rfl⟩
 rw[<-v,<-w];have j:∀i,bF 360360 6486480 (U i):=λi=>by rw[v];show bF _ _ (kE _ _ _ _);unfold kE;grind
 have y:∀i,bF 360360 6486480 (V i):=λi=>by rw[w];show bF _ _ (kF _ _ _);unfold kF;grind
 have f:∀i d,bF (360360*2) (6486480*2) (fC d 1 (U i) (V i)):=λi d=>by
  show bF _ _ (if d=1 then U i else(U i+V i)/2);split
  .exact(j i).up 2
  .exact((j i).add (y i)).half.mono ai
 have s:∀i d,bF (360360*360360) (6486480*6486480) (fC d 2 (U i) (V i)):=λi d=>(j i).mul (y i)
 have B:bF 1 1 (1:Rat):=Rc 1;have H:∀e∈kD p.n,bF (360360*360360*4) (6486480*6486480*4) (qs p.n (lY p.n p.obj) U V e):=λe c=>by
  have b:∀ {M W:Nat}{q:Rat} (k:Nat),bF M W q->M*k=360360*360360*4->W*k<=6486480*6486480*4->bF (360360*360360*4) (6486480*6486480*4) q:=λ{M W q} k h C D=>by have:=(h.up k).mono D;rwa[C]at this
  unfold qs;rcases g.n with bD|bD
  .rw[bD]at c⊢;rw[ay rfl,uF];simp only[kD,jr,rV,or_false]at c;rcases c with rfl|rfl|rfl
   .exact b (360360*360360*4) B ai ai
   .exact b (360360*2) (f 0 _) ai ai
   .exact b 4 (s 0 _) ai ai
  .rw[bD]at c⊢;rw[ao ai];simp only[kD,jr,rV,or_false]at c;have r:∀x:Rat,x*fC (lY 2 p.obj 1) 0 (U 1) (V 1)=x:=λx=>uF x
   have A:∀x:Rat,fC (lY 2 p.obj 0) 0 (U 0) (V 0)*x=x:=λx=>Rat.one_mul x
   rcases c with rfl|rfl|rfl|rfl|rfl|rfl
   .show bF _ _ (fC _ 0 _ _*fC _ 0 _ _);rw[r];exact b (360360*360360*4) B ai ai
   .show bF _ _ (fC _ 0 _ _*fC _ 1 _ _);rw[A];exact b (360360*2) (f 1 _) ai ai
   .show bF _ _ (fC _ 1 _ _*fC _ 0 _ _);rw[r];exact b (360360*2) (f 0 _) ai ai
   .show bF _ _ (fC _ 0 _ _*fC _ 2 _ _);rw[A];exact b 4 (s 1 _) ai ai
   .show bF _ _ (fC _ 1 _ _*fC _ 1 _ _);exact b 1 ((f 0 _).mul (f 1 _)) ai ai
   .show bF _ _ (fC _ 2 _ _*fC _ 0 _ _);rw[r];exact b 4 (s 0 _) ai ai
 have F:∀m:aF,(∀t∈m,t.2∈kD p.n/\bF 360360 16216200 t.1)->bF (360360*(360360*360360*4)) (af m*(16216200*(6486480*6486480*4))) (br (qs p.n (lY p.n p.obj) U V) m):=λm=>by
  induction m with
  |nil=>exactλ_=>⟨0,by show(0:Rat)*_=_;rw[Rat.zero_mul];rfl,aI⟩
  |cons t m J=>intro o;have E:=(o t aI).2.mul (H t.2 (o t aI).1);exact(E.add (J λK I=>o K (by simp[I]))).mono b4
 have G:=g.obj.2.2.1;have:=(F p.obj λt z=>⟨(g.obj.2.1 t z).1,g.obj.2.2.2 t z⟩).mono (W:=3*(16216200*(6486480*6486480*4))) (ei _ G);exact this.rC ai ai ai
end
end
end Go.Proofs.YtddhncjmaahodaaGreatDoor
