/- The law TreeCovers of the package sosoptlaw40 holds: the given statement, whole. No conditions. -/
import Derived.Test.YtddhncjmaahodaaGreatDoorE4
import Derived.Test.YtddhncjmaahodaaGreatDoorRows
import Derived.ProofKit
import Derived.LaidMore
import Derived.OpenShut
import Derived.Stop.Joined
import Derived.ChangeMaps5
import Derived.Test.YtddhncjmaahodaaGreatDoorProg
import Derived.KernelRfl
import GoSem.ClaimDataLaid
import GoSem.ClaimGoes
import Derived.Test.YtddhncjmaahodaaGreatDoorCards
import Derived.SevenTiedAt
import Derived.Test.YtddhncjmaahodaaGreatDoorTie
set_option linter.all false
noncomputable section
open Go.Proofs.Tryz renaming f34->jS,f41->qb,f5->jT,f76->kr,prog->e9
open Int renaming natAbs_mul->nM,natAbs_natCast->eU
open List renaming all_eq_true->qJ,append_assoc->gX,append_nil->hU,cons_append->gv,getD_eq_getElem?_getD->bT,getElem?_append_left->s4,getElem?_append_right->vI,getElem?_eq_getElem->c4,getElem?_eq_none->lA,getElem?_eq_some_iff->jo,getElem?_map->hY,getElem?_range->p4,getElem_mem->s5,length->af,length_append->bw,length_cons->dZ,length_map->gD,length_nil->p5,length_singleton->iA,length_take->e8,map_append->vJ,mem_append->ki,mem_cons->jr,mem_cons_of_mem->pq,mem_cons_self->uy,mem_map->g8,mem_of_mem_take->oD,mem_singleton->fj,nil_append->fS,not_mem_nil->rV,range->kZ,take_length->qM,take_of_length_le->dr
open Nat renaming add_assoc->ng,add_comm->i_,add_mul->fT,add_zero->dG,beq->bt,le_mul_of_pos_right->yJ,le_of_ble_eq_true->jI,le_refl->aJ,le_trans->c5,lt_of_le_of_lt->fu,mul_assoc->dx,mul_comm->dy,mul_le_mul_left->eN,mul_one->eD,mul_zero->gj,not_lt_zero->nP,pow_le_pow_right->iI,pow_pos->gE,pow_succ->dX,sub_self->nQ,succ_pos->mA,zero_add->eW,zero_le->cj
open Rat renaming divInt->oE,intCast_mul->xq,le_refl->qS,mul_one->uF
namespace Go.Proofs.YtddhncjmaahodaaGreatDoor
section
open Go.ax Go.aD
set_option maxRecDepth 100000
attribute [local irreducible] rd kc ex bD bB re rg mv bJ pick alloc box bi bs ba be fd bG st fa bz bY cv cn cw cT cS ms cr cK cJ cB mx mn cA ap cF bQ cC cD bU cE ext cO neg Go.ax.not cL cI cN cM cR cP cG cQ cy cx u8
def oy(i:Nat):Nat:=if i=0 then 7 else if i<=2 then 3 else 1
def o5:av->Nat
 |[]=>0
 |i::S=>oy i+o5 S
def Fa:∀a b,o5 (a++b)=o5 a+o5 b
 |[],b=>(eW _).symm
 |i::a,b=>by show oy i+o5 (a++b)=oy i+o5 a+o5 b;rw[Fa a b,ng]
def Uc:∀S:av,S.length<=o5 S
 |[]=>aJ 0
 |i::S=>by
  have:=Uc S;have:1<=oy i:=by unfold oy;split;decide;split<;>decide
  show S.length+1<=oy i+o5 S;omega
variable{a:Nat}
def awQ(h:a<=2):oy (2*a+2)+oy (2*a+1)<oy a:=by rcases(by omega:a=0\/a=1\/a=2)with rfl|rfl|rfl<;>decide
variable{Q:List dF}
theorem al9{l:List dF}(h:pW Q a l)(hl:af Q=af l)(j:Nat):lo' (iY Q) j<=lo' (iY l) j/\hi' (iY l) j<=hi' (iY Q) j:=by
 unfold lo' hi';by_cases b:j<af l
 .rw[JC b,JC aa];obtain⟨_,_,_,c,d⟩:=h j b;exact⟨c,d⟩
 grind [lA,JD,qS]
variable{h:Rat}
def apW{p:fM}(e:p.aG){t:aY}(b:t.aG p)(c:vT p t)(i:aM 81 h)(j:h<=ju p.n p.obj (iY (t.bs 0)))(hi:a<=2*t.s):cU 80 [hC p,.str (aO h),ia (t.er a),.agg (eS p.n (.leaf (.iS (-1))))] (.aH [cY,aj 0]):=by obtain⟨g,_⟩:=c.Jr e b (aa:0<=2*t.s);obtain⟨d,f⟩:=c.Jr e b hi;have k:=c.box b a hi;unfold aY.er;rw[asx (c.bd a hi)];exact alU d f i (Rat.le_trans j (Wr g d (al9 k (by rw[b.len 0 aa,b.len a hi]))))
set_option maxHeartbeats 1000000 in
theorem Xk(p:fM)(B:p.aG)(t:aY)(C:t.aG p)(G:vT p t)(b:Rat)(H:aM 81 b)(ae:b<=ju p.n p.obj (iY (t.bs 0))):cU 34 [hC p,.agg (jY t p.n b)] (.aH [.aA,aj 0]):=by
 have I:=Qd p B t C b H;have ba:=C.s;have V:bA (.aH [.aA,aj 0]):=.aH (.f2 .aA .ii);refine dg (.f2 (q2 p B.n) (.agg (DG t _ b))) (lX jS (h:=?_));simp only[hC,jY]at I⊢;simp only[go_sem,aV 34 jS,ak 34 jS 17,jm jS];refine bq I bH ?_;simp only[go_sem,ak 34 jS 16,ak 34 jS 15,ak 34 jS 14,ak 34 jS 13,ak 34 jS 12];obtain⟨f,h⟩:∃f,f=((dV.push (an [fl p.n,aj p.n,fq p.obj,dc p.n p.is,dc p.n p.es] 0)).push (an [bE bZ (t.er 0),.str (aO b),bE (eS p.n) t.jf] 0)).push (an [aj 0] 0):=⟨_,rfl⟩;have J:GT f:=by rw[h];exact bH
 have W:f.get 5=an [fl p.n,aj p.n,fq p.obj,dc p.n p.is,dc p.n p.es] 0:=by rw[h];simp only[go_sem]
 have X:f.get 6=an [bE bZ (t.er 0),.str (aO b),bE (eS p.n) t.jf] 0:=by rw[h];simp only[go_sem]
 have bp:f.get 7=an [aj 0] 0:=by rw[h];simp only[go_sem]
 have n0:f.ag=8:=by rw[h];simp only[go_sem]
 rw[<-h];clear h;refine b8 (λk F c=>∃S v,k=o5 S/\k<=7/\(∀i∈S,i<=2*t.s)/\rd 2 F=.ptr 5 0/\rd 3 F=.ptr 6 0/\rd 6 F=bE tu t.r9/\rd 8 F=.aA/\rd 9 F=aj 0/\rd 10 F=v/\ni 7 c v S/\eC 7 f c) 7 ⟨[0],.slice 7 0 1 (.known 1),rfl,aJ _,(λi hi=>by grind),?_,?_,?_,?_,?_,?_,⟨7,[aj 0],aJ _,aa,aJ _,rfl,.inl ⟨rfl,rfl,bp⟩⟩,.refl aa⟩ ?_
 iterate 6 simp only[go_sem]
 rintro k a6 c ⟨S,v,rfl,ad,E,x,q,z,r,A,w,u,hh⟩;have ab:GT c:=J.keep λy o=>hh.1 y aa
 have al:=Uc S;rcases List.eq_nil_or_concat S with rfl|⟨d,i,rfl⟩
 .have hl:di v=some (.val (aj 0)):=u.len;simp only[go_sem,ak 34 jS 8,w,hl];simp only[go_sem,ak 34 jS 11,ak 34 jS 10,ak 34 jS 9,r,A];refine use auF ?_;simp only[go_sem,r];exact bO ab rfl V
 .rw[List.concat_eq_append]at*;have hl:di v=some (.val (aj (d.length+1:Nat))):=by have:=u.len;grind
  have D:((0:Int)<((d.length+1:Nat):Int))=True:=eq_true aa;have bb:d.length+1<=7:=by rw[bw,iA]at al;omega
  have U:aE .i64 (((d.length+1:Nat):Int)-1)=(d.length:Int):=by rw[aK _ aa];omega
  obtain⟨a8,Q,R⟩:=u.top;obtain⟨T,P,aw⟩:=u.pop;have hi:i<=2*t.s:=E i aI;have Y:∀j∈d,j<=2*t.s:=λj hj=>E j (by simp[hj])
  have M:i<2*t.s+1:=aa;have ap:t.jf[i]? =some (t.nd i):=by rw[aY.jf,hY,p4 M];rfl
  have l:=jO (x6 p.n) ap;have a':i<t.jf.length:=by rw[wG];exact M
  have N:=iq (f:=eS p.n) (k:=9) (l:=t.jf) (i:=(i:Int)) (ik:=.i64) aa;have a1:=(hh.1 5 ai).trans W;have O:=(hh.1 6 ai).trans X;have am:=hh.2;have a5:=ek (aa:6<c.ag);have a4:=ek (aa:5<c.ag);rw[Fa]at ad⊢;have hw:o5 [i]=oy i:=dG _;have g:∀m,ni 7 ((c.push (an qF 0)).set c.ag (an m 0)) T d:=λm=>aw.keep (λy o=>by rw[ah.aT,ao aa,ah.bl,ao aa]) (by show c.ag<=c.ag+1;omega)
  have e:∀m,eC 7 f ((c.push (an qF 0)).set c.ag (an m 0)):=λm=>(hh.push _).set am _
  by_cases L:i<t.s
  .rw[show t.nd i=.split (t.v i) (t.a i) (2*i+1) (2*i+2)from ay L]at l;have a9:=awQ (aa:i<=2);have g:=g (eS p.n (.split (t.v i) (t.a i) (2*i+1) (2*i+2)));have e:=e (eS p.n (.split (t.v i) (t.a i) (2*i+1) (2*i+2)));obtain⟨k1,k2,bX⟩:=g.bM;simp only[eS,qF]at l g e;simp only[go_sem,ak 34 jS 8,ak 34 jS 7,ak 34 jS 6,ak 34 jS 5,ak 34 jS 4,q,w,hl,D,U,Q,R,P,O,N,l];refine g.push aa ⟨by show 7<=c.ag+1;omega,ai⟩ (2*i+2) (2*i+1) λv3 H3 a2 l3 bo=>?_
   simp only[go_sem];refine⟨o5 (d++[2*i+2,2*i+1]),?_,d++[2*i+2,2*i+1],v3,rfl,?_,?_,?_,?_,?_,?_,?_,?_,a2,⟨λy o=>(l3 y o).trans (e.1 y o),?_⟩⟩
   .rw[Fa];show o5 d+(oy (2*i+2)+(oy (2*i+1)+0))<_;omega
   .rw[Fa];show o5 d+(oy (2*i+2)+(oy (2*i+1)+0))<=_;omega
   .grind
   iterate 6 simp only[go_sem,x,q,z,r,A]
   .have:=e.2;omega
  .rw[show t.nd i=.leaf (t.gh i)from ao L,G.gh i aa hi]at l;have K:=apW B C G H ae hi;have Z:t.r9[i]? =some (t.er i):=by rw[aY.r9,hY,List.getElem?_range' aa];simp
   have ar:cW (eH (c3 tu t.r9) i) 1=some [bE bZ (t.er i)]:=by have:=jO (f:=tu) (k:=1) (λ_=>rfl) Z;rwa[eD]at this
   have a0:=iq (f:=tu) (k:=1) (l:=t.r9) (i:=(i:Int)) (ik:=.i64) (by grind)
   have g:=g (eS p.n (.leaf (.iS (-1))));have e:=e (eS p.n (.leaf (.iS (-1))));simp only[eS,qF]at l g e;simp only[hC,ia,eS]at K;simp only[go_sem,ak 34 jS 8,ak 34 jS 7,ak 34 jS 6,ak 34 jS 5,ak 34 jS 4,ak 34 jS 3,ak 34 jS 2,x,q,z,w,hl,D,U,Q,R,P,a1,O,a4,a5,N,l,a0,ar];refine bq K (J.keep λy o=>e.1 y aa) ?_;simp only[go_sem,ak 34 jS 1,ak 34 jS 0];have bd:1<=oy i:=by unfold oy;split;decide;split<;>decide
   refine⟨o5 d,aa,d,T,rfl,aa,Y,?_,?_,?_,?_,?_,?_,g,e⟩
   iterate 6 simp only[go_sem,x,q,z,r,A]
def apH(l:List Int)(p:fM)(s:List dF)(a:s.all jB=true):CI l 78 (.agg (u6 1)) [oh p,iH s] λv=>∃f:pZ,(w_ p (s.map gB) f/\f=.iS (-1))/\v=.agg (eS p.n (.leaf f)):=by
 refine avl (.agg (.f5 .ii .bb .aA .bb .aA)) (.f2 (AZ _) (v_ _)) λc b=>eM Tryz.f78 (h:=?_)
 simp only[go_sem,u6,oh,fX];refine⟨c,_,b,?_,.same _,.agg (zd p.n (.leaf (.iS (-1)))),.iS (-1),⟨⟨ai,aa,by rw[VG];exact a⟩,rfl⟩,rfl⟩;simp only[q7]
def nS(a:au)(q:Rat):Prop:=a=bk q\/(a=[aR,.aA,aR,.aA]/\q=0)
variable{c:au}
def nS.l4(a:nS c h):cW c 4=some c:=by rcases a with rfl|⟨rfl,_⟩<;>rfl
def nS.put(f:nS c h)(a b e d:V):dj [a,b,e,d] c 0=some [a,b,e,d]:=by rcases f with rfl|⟨rfl,_⟩<;>rfl
def EE:bR 0=.agg [aR,.row 0 [],aR,.row 0 []]:=by unfold bR bk;rw[show(0:Rat).num=0 from rfl,nZ (show(0:Rat).den=1 from rfl),show((0:Int).natAbs)=0 from rfl,kz];rfl
variable{d:Nat}{m:Nat}
def Tf{a:Rat}(h:nS c a)(b:Rat)(g:aM d a)(i:aM m b)(j:d+m<=10000)(H:ah):dm 37 [.agg c,bR b] H λu f=>u=bR (a+b)/\f=H:=by
 have e:=yb a b g i aa H;rcases h with rfl|⟨rfl,rfl⟩
 .exact e
 .rw[EE]at e;exact C3 (.f2 (.agg (.f4 .mm .gK .mm .gK)) .mm) e
def sN(t:b9)(x:Nat->Rat):Nat->Rat
 |0=>t.1
 |k+1=>sN t x k*x k^t.2.getD k 0
def vW(n:Nat)(x:Nat->Rat)(e:av):Rat:=x 0^e.getD 0 0*(if n=1 then 1 else x 1^e.getD 1 0)
def Kp(b:a=1\/a=2)(t:b9)(x:Nat->Rat):sN t x a=t.1*vW a x t.2:=by
 unfold vW;rcases b with rfl|rfl
 .rw[ay rfl,uF];rfl
 .rw[ao ai];exact Rat.mul_assoc _ _ _
theorem S9(x:Rat):pw x 1=x^1/\pw x 2=x^2:=⟨by show 1*x=x^1;grind,by show 1*x*x=x^2;grind⟩
theorem S2(b:aM 40 h)(c:a<=2):aM 81 (h^a):=by
 rcases(by omega:a=0\/a=1\/a=2)with rfl|rfl|rfl
 .rw[show h^0=1 by grind];exact wO.mono ai
 .rw[show h^1=h by grind];exact b.mono ai
 .rw[show h^2=h*h by grind];exact(b.mul b).mono ai
variable{N:b9}{L:Nat->Rat}
def Fe(b:aM 15 N.1)(c:∀i,aM 40 (L i))(a:∀i,N.2.getD i 0<=2):∀k,aM (15+81*k) (sN N L k)
 |0=>b
 |k+1=>((Fe b c a k).mul (S2 (c k) (a k))).mono aa
def DK{f:av->Rat}{k:Nat}:∀m:aF,(∀t∈m,aM k (t.1*f t.2))->aM ((k+1)*af m+1) (br f m)
 |[],_=>by rw[p5,gj];exact⟨(by decide:(0:Rat).num.natAbs<2^(0+1)),(by decide:(0:Rat).den<2^(0+1))⟩
 |t::m,h=>by have:=(h t aI).add (DK m λu a=>h u (by simp[a]));exact this.mono (by rw[dZ,Nat.mul_succ];omega)
set_option maxHeartbeats 1000000 in
theorem VZ{n:Nat}(Q:n=1\/n=2)(p:aF)(v:∀t∈p,t.2.length=n/\(∀i,t.2.getD i 0<=2)/\aM 15 t.1)(hl:af p<=10)(d:List Rat)(a6:af d=n)(hx:∀i,aM 40 (d.getD i 0)):bm 41 [d_ n p,bE bk d] (bR (AA n p λi=>d.getD i 0)):=by
 obtain⟨x,ex⟩:∃x:Nat->Rat,x=λi=>d.getD i 0:=⟨_,rfl⟩
 have w:∀i,aM 40 (x i):=λi=>by rw[ex];exact hx i
 rw[<-ex];have A:∀t∈p,∀k,aM (15+81*k) (sN t x k):=λt o=>Fe (v t o).2.2 w (v t o).2.1
 refine nF (.f2 (kA _ _) (hH mE d)) (lX qb (h:=?_));have a1:di (bN p)=some (.val (aj (af p))):=rfl;simp only[go_sem,aV 41 qb,ak 41 qb 8,ak 41 qb 7,d_,fZ];simp only[ak 41 qb 5,ak 41 qb 4,ak 41 qb 3];refine uR (af p) [1,2,4,5] [] 7 (λm _ H=>∃r,nS r (br (vW n x) (p.take m))/\H.get 7=an r 0/\8<=H.ag) ?_ aa ai (jI rfl) (λ_ _ _ _ _ h=>h) ⟨_,.inr ⟨rfl,rfl⟩,?_,jI rfl⟩ ?_ ?_ ?_
 iterate 2 simp only[go_sem]
 .intro m L c a hh hi K E;simp only[go_sem]at a;have s:c.get 5=an [aj n,bN p] 0:=by rw[hh.1 5 ai];simp only[go_sem]
  simp only[go_sem,a,hi,s,a1];refine E _ ?_ trivial ?_ ?_
  iterate 2 simp only[go_sem,a,hi]
  .simp only[go_sem];congr 1;exact decide_eq_decide.2 aa
 .rintro m L c hm a hh hi ⟨r,q,bp,h8⟩;simp only[go_sem]at a;obtain⟨t,R,o⟩:=gw hm;obtain⟨te,t2,a8⟩:=v t R;have A:=A t R;have s:c.get 5=an [aj n,bN p] 0:=by rw[hh.1 5 ai];simp only[go_sem]
  have V:=ek (aa:5<c.ag);have a3:=ek (aa:7<c.ag);have I:=ny (l:=p) (i:=(m:Int)) (k:=.i64) aa;have pS:=yp o;have X:=ua o;simp only[bk]at pS;simp only[go_sem,a,hi,s,I,pS];simp only[ak 41 qb 2,ak 41 qb 1,ak 41 qb 0];refine uR n [1,2,4,5,6,7] [] c.ag (λk _ H=>H.get c.ag=an (bk (sN t x k)) 0/\c.ag<H.ag) ?_ aa ai ff (λ_ _ _ _ _ h=>h) ⟨?_,?_⟩ ?_ ?_ ?_
  .simp only[go_sem]
  .simp only[go_sem];rfl
  .simp only[go_sem];omega
  .intro k B j b g l K E;simp only[go_sem,a,hi]at b;have z:j.get 5=an [aj n,bN p] 0:=by rw[g.1 5 aa];simp only[go_sem,V,s]
   simp only[go_sem,b,l,z];refine E _ ?_ trivial ?_ ?_
   iterate 2 simp only[go_sem,a,hi,b,l]
   .simp only[go_sem];congr 1;exact decide_eq_decide.2 aa
  .rintro k B j a5 b g l ⟨f,F⟩;simp only[go_sem,a,hi]at b;have z:j.get 5=an [aj n,bN p] 0:=by rw[g.1 5 aa];simp only[go_sem,V,s]
   have U:=j8 (l:=t.2) (i:=(k:Int)) (k:=.i64) aa;have M:=jc (l:=t.2) (i:=k) aa;have ab:=t2 k;obtain⟨Y,_,T⟩:=gw (aa:k<af d);have ad:x k=Y:=by rw[ex];show d.getD k 0=Y;rw[bT,T];rfl
   have ix:=iq (f:=bk) (k:=4) (l:=d) (i:=(k:Int)) (ik:=.i64) aa;have J:=jO wP T;rw[<-ad]at J;simp only[bk]at J f;have done:∀Z,gG [1,2,4,5,6,7] Z B->True:=λ_ _=>trivial
   by_cases D:t.2.getD k 0=0
   .have C:((0:Int)<((t.2.getD k 0:Nat):Int))=False:=eq_false aa;have ev:sN t x (k+1)=sN t x k:=by show sN t x k*x k^t.2.getD k 0=_;rw[D,show x k^0=1 by grind,uF]
    simp only[go_sem,a,hi,b,l,z,I,X,U,M,C];exact⟨g,by rw[ev];exact f,F⟩
   .have C:((0:Int)<((t.2.getD k 0:Nat):Int))=True:=eq_true aa;have G:=ass (x k) (w k) ai (t.2.getD k 0) aa;rw[show pw (x k) (t.2.getD k 0)=x k^t.2.getD k 0 by
     rcases(by omega:t.2.getD k 0=1\/t.2.getD k 0=2)with e|e<;>rw[e]
     .exact(S9 _).1
     .exact(S9 _).2]at G
    have P:=sF (sN t x k) (x k^t.2.getD k 0) (A k) (S2 (w k) ab) aa;simp only[bR,bk]at G P;simp only[go_sem,a,hi,b,l,z,I,X,U,M,C,f,ix,J];refine use G ?_;simp only[go_sem,b,f];refine use P ?_;simp only[go_sem,a,hi,b,l,f];exact⟨eC.set g (aJ _) _,rfl,F⟩
  .rintro B j b g ⟨f,F⟩;simp only[go_sem,a,hi]at b;have W:j.get 7=an r 0:=by rw[g.1 7 aa];simp only[go_sem,a3,bp]
   have am:=DK (f:=vW n x) (k:=177) (p.take m) λu S=>by rw[<-Kp Q];exact(Fe (v u (oD S)).2.2 w (v u (oD S)).2.1 n).mono aa
   have ap:aM ((177+1)*10+1) (br (vW n x) (p.take m)):=am.mono (by grind)
   have O:=Tf q (sN t x n) ap ((A n).mono (aa:15+81*n<=177)) ai j;have l4:=q.l4;have a2:=q.put;simp only[bR,bk]at O f;simp only[go_sem,b,W,l4,f];refine O.mono ?_;rintro _ _ ⟨rfl,rfl⟩;simp only[go_sem,a,hi,b,W,a2];refine⟨⟨λy hy=>?_,by show 7<=ah.ag _;simp only[go_sem];omega⟩,_,.inl ?_,rfl,aa⟩
   .rw[ah.aT,ao aa,g.1 y aa,ah.aT,ao aa];simp only[go_sem,ek (aa:y<c.ag)];rw[hh.1 y hy];simp only[go_sem]
   .rw[vq o,zh,show br (vW n x) [t]=sN t x n by rw[Kp Q];exact Rat.add_zero _];rfl
 .rintro L c a hh ⟨r,q,bp,h8⟩;simp only[go_sem]at a;rw[qM]at q;have N:c.get 6=an [aR,.aA,aR,.aA] 0:=by rw[hh.1 6 ai];simp only[go_sem]
  rcases q with rfl|⟨rfl,D⟩
  .simp only[bk]at bp;simp only[go_sem,ak 41 qb 6,jm qb,a,N,bp];exact⟨_,.same _,ij _,rfl⟩
  .simp only[go_sem,ak 41 qb 6,jm qb,a,N,bp];refine⟨bR 0,by rw[EE];exact .agg (.f4 .mm .gK .mm .gK),ij _,?_⟩;show bR 0=bR (br (vW n x) p);rw[D]
theorem QE(f:av->Rat)(t:b9):∀a:aF,br f (a.map (pQ t))=t.1*br (λe=>f (gH e t.2)) a
 |[]=>by show(0:Rat)=t.1*0;grind
 |u::a=>by show u.1*t.1*f (gH u.2 t.2)+br f (a.map (pQ t))=t.1*(u.1*f (gH u.2 t.2)+br _ a);rw[QE f t a];grind
def QG(f:av->Rat)(a:aF):∀b:aF,br f (kU a b)=br (λe=>br (λc=>f (gH c e)) a) b
 |[]=>rfl
 |t::b=>by show br f (f_ (a.map (pQ t))++kU a b)=t.1*br (λc=>f (gH c t.2)) a+br _ b;rw[zh,xQ,QE,QG f a b]
theorem DL(f:av->Rat)(a b:aF):br f (rI a b)=br (λe=>br (λc=>f (gH c e)) a) b:=by unfold rI;rw[xQ,QG]
theorem QD(f:av->Rat)(c:Rat):∀a:aF,br f (a.map (pN c))=c*br f a
 |[]=>by show(0:Rat)=c*0;grind
 |u::a=>by show c*u.1*f u.2+br f (a.map (pN c))=c*(u.1*f u.2+br f a);rw[QD f c a];grind
def kP(n i:Nat)(lo w:Rat):aF:=f_ (f_ [(lo,Z n)]++[(w*1,U n i)])
theorem QB(f:av->Rat)(n i:Nat)(lo w:Rat):br f (kP n i lo w)=lo*f (Z n)+w*f (U n i):=by
 unfold kP;rw[xQ,zh,xQ];show lo*f (Z n)+0+(w*1*f (U n i)+0)=_
 grind
def Vz(b:a=1\/a=2)(hi:d<a):gH (Z a) (Z a)=Z a/\gH (Z a) (U a d)=U a d/\gH (U a d) (Z a)=U a d:=by
 rcases b with rfl|rfl
 .obtain rfl:d=0:=aa;exact⟨rfl,rfl,rfl⟩
 .rcases(by omega:d=0\/d=1)with rfl|rfl<;>exact⟨rfl,rfl,rfl⟩
theorem QC{i:Nat}(d:a=1\/a=2)(hi:i<a)(f:av->Rat)(lo w:Rat):br f (lq a (kP a i lo w) 0)=f (Z a)/\br f (lq a (kP a i lo w) 1)=lo*f (Z a)+w*f (U a i)/\br f (lq a (kP a i lo w) 2)=lo*lo*f (Z a)+2*lo*w*f (U a i)+w*w*f (gH (U a i) (U a i)):=by
 obtain⟨e,g,h⟩:=Vz d hi;have b:∀f:av->Rat,br f (lq a (kP a i lo w) 0)=f (Z a):=λf=>by
  show br f (f_ [(1,Z a)])=_;rw[xQ];show 1*f (Z a)+0=_
  grind
 have c:∀f:av->Rat,br f (lq a (kP a i lo w) 1)=lo*f (Z a)+w*f (U a i):=λf=>by show br f (rI (lq a (kP a i lo w) 0) _)=_;rw[DL,QB,b,b,e,g]
 refine⟨b f,c f,?_⟩;show br f (rI (lq a (kP a i lo w) 1) _)=_
 grind [DL,QB]
def gu(d a e:Nat):Rat:=if e<=a then(if e=1/\d=2/\a≠2 then 1/2 else 1)else 0
def rs(d a e:Nat)(lo w:Rat):Rat:=match e with
 |0=>1
 |1=>lo+w*gu d a 1
 |_=>lo*lo+2*lo*w*gu d a 1+w*w*gu d a 2
theorem TC{a:Nat}(c:d<=2)(b:a<=d)(e:m<=d)(lo hi:Rat):rs d a m lo (hi-lo)=fC d m (kE d a lo hi) (kF a lo hi):=by
 rcases(by omega:m=0\/m=1\/m=2)with rfl|rfl|rfl
 .rfl
 .rcases(by omega:d=1\/d=2)with rfl|rfl
  .rcases(by omega:a=0\/a=1)with rfl|rfl
   .show lo+(hi-lo)*0=lo;grind
   .show lo+(hi-lo)*1=hi;grind
  .rcases(by omega:a=0\/a=1\/a=2)with rfl|rfl|rfl
   .show lo+(hi-lo)*0=(lo+lo)/2;grind
   .show lo+(hi-lo)*(1/2)=(lo+hi)/2;grind
   .show lo+(hi-lo)*1=(hi+hi)/2;grind
 .obtain rfl:d=2:=aa;rcases(by omega:a=0\/a=1\/a=2)with rfl|rfl|rfl
  .show lo*lo+2*lo*(hi-lo)*0+(hi-lo)*(hi-lo)*0=lo*lo;grind
  .show lo*lo+2*lo*(hi-lo)*(1/2)+(hi-lo)*(hi-lo)*0=lo*hi;grind
  .show lo*lo+2*lo*(hi-lo)*1+(hi-lo)*(hi-lo)*1=hi*hi;grind
def lO(n:Nat)(D:Nat->Nat)(a:Nat->Nat)(e:av):Rat:=gu (D 0) (a 0) (e.getD 0 0)*(if n=1 then 1 else gu (D 1) (a 1) (e.getD 1 0))
def fJ(n:Nat)(l:List (Rat×Rat)):List aF:=(kZ n).map λi=>kP n i (lo' l i) (hi' l i-lo' l i)
theorem Bf{l:List (Rat×Rat)}(hi:d<a):(fJ a l).getD d []=kP a d (lo' l d) (hi' l d-lo' l d):=by
 unfold fJ
 grind
theorem JX(d a:Nat):gu d a 0=1:=by unfold gu;grind
theorem ako(y:d=1\/d=2)(D a:Nat->Nat)(l:List (Rat×Rat))(t:b9)(x:∀i,t.2.getD i 0<=2):br (lO d D a) (jC d (fJ d l) t d)=t.1*(rs (D 0) (a 0) (t.2.getD 0 0) (lo' l 0) (hi' l 0-lo' l 0)*(if d=1 then 1 else rs (D 1) (a 1) (t.2.getD 1 0) (lo' l 1) (hi' l 1-lo' l 1))):=by
 have C:∀f:av->Rat,br f (jC d (fJ d l) t 0)=t.1*f (Z d):=λf=>by show br f (f_ [(t.1,Z d)])=_;rw[xQ];exact Rat.add_zero _
 have g:=x 0;have M:=x 1;have A:=Bf (l:=l) (aa:0<d);have w:∀f:av->Rat,br f (jC d (fJ d l) t 1)=t.1*br (λe=>f (gH (Z d) e)) (lq d (kP d 0 (lo' l 0) (hi' l 0-lo' l 0)) (t.2.getD 0 0)):=λf=>by
  show br f (rI (jC d (fJ d l) t 0) (lq d ((fJ d l).getD 0 []) (t.2.getD 0 0)))=_;rw[DL,A];have:∀m:aF,br (λe=>br (λo=>f (gH o e)) (jC d (fJ d l) t 0)) m=t.1*br (λe=>f (gH (Z d) e)) m:=λm=>by
   induction m with
   |nil=>show(0:Rat)=t.1*0;grind
   |cons u m E=>show u.1*br _ _+br _ m=t.1*(u.1*f (gH (Z d) u.2)+br _ m);rw[E,C];grind
  exact this _
 have v:=λf=>QC (i:=0) y aa f (lo' l 0) (hi' l 0-lo' l 0)
 rcases y with rfl|rfl
 .rw[w,ay rfl];obtain⟨n,j,b⟩:=v (λe=>lO 1 D a (gH (Z 1) e));have I:lO 1 D a (gH (Z 1) (Z 1))=1:=by show gu _ _ 0*1=1;rw[JX];exact Rat.one_mul 1
  have J:lO 1 D a (gH (Z 1) (U 1 0))=gu (D 0) (a 0) 1:=by show gu _ _ 1*1=_;exact uF _
  have K:lO 1 D a (gH (Z 1) (gH (U 1 0) (U 1 0)))=gu (D 0) (a 0) 2:=by show gu _ _ 2*1=_;exact uF _
  rw[I]at n j b;rw[J]at j b;rw[K]at b;rcases(by omega:t.2.getD 0 0=0\/t.2.getD 0 0=1\/t.2.getD 0 0=2)with e|e|e<;>rw[e]
  .rw[n];show t.1*1=t.1*(1*1);grind
  .rw[j];show _=t.1*((_+_*_)*1);grind
  .rw[b];show _=t.1*((_*_+2*_*_*_+_*_*_)*1);grind
 .have B:=Bf (l:=l) (ai:1<2);rw[ao ai];show br _ (rI (jC 2 (fJ 2 l) t 1) (lq 2 ((fJ 2 l).getD 1 []) (t.2.getD 1 0)))=_;rw[DL,B];obtain⟨z,s,p⟩:=QC (i:=1) (.inr rfl) ai (λe=>br (λo=>lO 2 D a (gH o e)) (jC 2 (fJ 2 l) t 1)) (lo' l 1) (hi' l 1-lo' l 1);have q:∀(k:av) (c:Rat),(∀g:av,g=Z 2\/g=U 2 0\/g=gH (U 2 0) (U 2 0)->lO 2 D a (gH (gH (Z 2) g) k)=gu (D 0) (a 0) (g.getD 0 0)*c)->br (λo=>lO 2 D a (gH o k)) (jC 2 (fJ 2 l) t 1)=t.1*(rs (D 0) (a 0) (t.2.getD 0 0) (lo' l 0) (hi' l 0-lo' l 0)*c):=λk c r=>by
   rw[w];obtain⟨n,j,b⟩:=v (λe=>lO 2 D a (gH (gH (Z 2) e) k));rw[r _ (.inl rfl)]at n j b;rw[r _ (.inr (.inl rfl))]at j b;rw[r _ (.inr (.inr rfl))]at b;have L:gu (D 0) (a 0) ((Z 2).getD 0 0)=1:=JX _ _;rw[L]at n j b;rcases(by omega:t.2.getD 0 0=0\/t.2.getD 0 0=1\/t.2.getD 0 0=2)with e|e|e<;>rw[e]
   .rw[n];show t.1*(1*c)=t.1*(1*c);rfl
   .rw[j];show t.1*(_+_*(gu _ _ 1*c))=t.1*((_+_*gu _ _ 1)*c);grind
   .rw[b];show t.1*(_+_*(gu _ _ 1*c)+_*(gu _ _ 2*c))=t.1*((_*_+2*_*_*gu _ _ 1+_*_*gu _ _ 2)*c);grind
  have F:=q (Z 2) 1 λg h=>by rcases h with rfl|rfl|rfl<;>(show gu _ _ _*(if 2=1 then 1 else gu _ _ 0)=gu _ _ _*1;rw[ao ai,JX];rfl)
  have G:=q (U 2 1) (gu (D 1) (a 1) 1) λg h=>by rcases h with rfl|rfl|rfl<;>rfl
  have H:=q (gH (U 2 1) (U 2 1)) (gu (D 1) (a 1) 2) λg h=>by rcases h with rfl|rfl|rfl<;>rfl
  rw[F]at z s p;rw[G]at s p;rw[H]at p;rcases(by omega:t.2.getD 1 0=0\/t.2.getD 1 0=1\/t.2.getD 1 0=2)with e|e|e<;>rw[e]
  .rw[z];rfl
  .rw[s];show _=t.1*(_*(_+_*gu _ _ 1));grind
  .rw[p];show _=t.1*(_*(_*_+2*_*_*gu _ _ 1+_*_*gu _ _ 2));grind
theorem QF(f:av->Rat)(b:List aF)(p:aF)(g:b9->Rat)(c:∀t∈p,br f (jC a b t a)=g t):∀m,m<=af p->br f (mL a b p m)=((p.take m).map g).sum
 |0,_=>rfl
 |m+1,h=>by
  obtain⟨t,d,e⟩:=gw (aa:m<af p);rw[mL,xQ,zh,QD,QF f b p g c m aa,vq e,vJ,List.sum_append,show p.getD m (0,[])=t by rw[bT,e];rfl,c t d];show _+1*g t=_+(g t+0)
  grind
variable{k:aF}{u:List (Rat×Rat)}
def avb(h:iJ d k u){a:Nat->Nat}(e:∀i,a i<=lY d k i):br (lO d (lY d k) a) (mL d (fJ d u) k (af k))=si d k u a:=by
 have f:=h.d2;rw[QF (lO d (lY d k) a) (fJ d u) k _ (λt c=>ako h.hn (lY d k) a u t (h.he t c)) (af k) (aJ _),qM];unfold si;have g:=λt (c:t∈k) i=>(h.IC t c).2 i
 have:∀m:aF,(∀t∈m,t∈k)->(m.map λt=>t.1*(rs (lY d k 0) (a 0) (t.2.getD 0 0) (lo' u 0) (hi' u 0-lo' u 0)*(if d=1 then 1 else rs (lY d k 1) (a 1) (t.2.getD 1 0) (lo' u 1) (hi' u 1-lo' u 1)))).sum=br (qs d (lY d k) (λi=>kE (lY d k i) (a i) (lo' u i) (hi' u i)) (λi=>kF (a i) (lo' u i) (hi' u i))) m:=λm=>by
  induction m with
  |nil=>exactλ_=>rfl
  |cons t m l=>intro b;rw[List.map_cons,List.sum_cons,l λn j=>b n (by simp[j])];show _=t.1*qs _ _ _ _ t.2+_;unfold qs;rw[TC (f 0) (e 0) (g t (b t aI) 0),TC (f 1) (e 1) (g t (b t aI) 1)]
 exact this k λ_ h=>h
structure eX (n M V s l:Nat) (p:List b9):Prop where
 e:∀t∈p,t.2.length=n/\t.2.sum<=s
 g:∀t∈p,bF M V t.1
 l:af p<=l
variable{D:Nat}
def eX.pb{V k:Nat}{p:aF}(h:eX a d V m D p)(f:d≠0)(b:d<2^k)(c:V<2^k):gF a k m D p:=⟨h.e,λt i=>(h.g t i).rC f b c,h.l⟩
def eX.f_{V:Nat}(h:eX a d V m D k):eX a d (V*D) m D (f_ k):=⟨λt c=>by obtain⟨u,f,b⟩:=EB c;rw[b];exact h.e u f,S6 h.g h.l,c5 (BG k) h.l⟩
variable{O:Nat}
def eX.app{V:Nat}{q:aF}(h:eX a d V m D k)(b:eX a d V m O q):eX a d V m (D+O) (k++q):=⟨λt c=>(ki.1 c).elim (h.e t) (b.e t),λt c=>(ki.1 c).elim (h.g t) (b.g t),by rw[bw];have:=h.l;have:=b.l;omega⟩
def eX.mono{V V' s' l':Nat}(h:eX a d V m D k)(c:V<=V')(f:m<=s')(i:D<=l'):eX a d V' s' l' k:=⟨λt b=>⟨(h.e t b).1,c5 (h.e t b).2 f⟩,λt b=>(h.g t b).mono c,c5 h.l i⟩
def eX.up{V:Nat}{p:aF}(k:Nat)(h:eX a d V m D p):eX a (d*k) (V*k) m D p:=⟨h.e,λt b=>(h.g t b).up k,h.l⟩
def eX.one{V s:Nat}{t:b9}(c:t.2.length=a/\t.2.sum<=s)(e:bF d V t.1):eX a d V s 1 [t]:=⟨λu b=>by rw[fj.1 b];exact c,λu b=>by rw[fj.1 b];exact e,aJ _⟩
def eX.sh{V i st:Nat}(h:eX a d V m D k)(b:N.2.length=a/\N.2.sum<=st)(n:bF O i N.1):eX a (d*O) (V*i) (m+st) D (k.map (pQ N)):=⟨λv f=>by obtain⟨u,c,rfl⟩:=g8.1 f;obtain⟨j,o⟩:=h.e u c;exact⟨F2 j b.1,by show(gH u.2 N.2).sum<=_;rw[CN (j.trans b.1.symm)];exact Nat.add_le_add o b.2⟩,λv f=>by obtain⟨u,c,rfl⟩:=g8.1 f;exact(h.g u c).mul n,by rw[gD];exact h.l⟩
def eX.kU{f i j n:Nat}{a:aF}(o:eX d m D O f a):∀ {b:aF}{lb:Nat},eX d i j n lb b->eX d (m*i) (D*j*f) (O+n) (f*lb) (kU a b)
 |[],lb,_=>⟨(λ_ h=>nomatch h),(λ_ h=>nomatch h),cj _⟩
 |t::r,lb,h=>by have hl:=h.l;rw[dZ]at hl;obtain⟨c,rfl⟩:∃c,lb=c+1:=⟨lb-1,aa⟩;have p:eX d i j n c r:=⟨λu k=>h.e u (pq _ k),λu k=>h.g u (pq _ k),aa⟩;have q:=(o.sh (h.e t (uy ..)) (h.g t (uy ..))).f_;rw[show f*(c+1)=f+f*c by rw[Nat.mul_succ,i_]];exact q.app (eX.kU o p)
def eX.times{b e f g c:Nat}{a:aF}(h:eX d m D O b a)(i:eX d e f g c k):eX d (m*e) (D*f*b*(b*c)) (O+g) (b*c) (rI a k):=(h.kU i).f_
def CK(b:a=1\/a=2)(hi:d<a):af (Z a)=a/\(Z a).sum=0/\af (U a d)=a/\(U a d).sum=1:=by
 rcases b with rfl|rfl
 .obtain rfl:d=0:=aa;exact⟨rfl,rfl,rfl,rfl⟩
 .rcases(by omega:d=0\/d=1)with rfl|rfl<;>exact⟨rfl,rfl,rfl,rfl⟩
def R7(f:d=1\/d=2)(hi:m<d){lo:Rat}(c:bF 360360 6486480 lo)(e:bF 360360 12972960 h):eX d 360360 25945920 1 2 (kP d m lo h):=by obtain⟨g,i,j,sY⟩:=CK f hi;have a:=(eX.one (t:=(lo,Z d)) (s:=0) ⟨g,Nat.le_of_eq i⟩ c).f_;have b:eX d 360360 12972960 1 1 [(h*1,U d m)]:=eX.one ⟨j,Nat.le_of_eq sY⟩ (by rw[uF];exact e);exact((a.mono (V':=12972960) (s':=1) (l':=1) ai ai (aJ _)).app b).f_
def Jn(e:Nat):Nat×Nat×Nat:=match e with
 |0=>(1,1,1)
 |1=>(360360,51891840,2)
 |_=>(360360*360360,16*25945920*25945920,4)
def Jw{i:Nat}(b:a=1\/a=2)(hi:i<a){lo:Rat}(f:bF 360360 6486480 lo)(g:bF 360360 12972960 h){e:Nat}(l:e<=2):eX a (Jn e).1 (Jn e).2.1 e (Jn e).2.2 (lq a (kP a i lo h) e):=by
 obtain⟨j,k,_⟩:=CK b hi;have hl:=R7 b hi f g;have c:eX a 1 1 0 1 (lq a (kP a i lo h) 0):=(eX.one (t:=((1:Rat),Z a)) (s:=0) ⟨j,Nat.le_of_eq k⟩ (Rc 1)).f_;have d:eX a 360360 51891840 1 2 (lq a (kP a i lo h) 1):=(c.times hl).mono ai ai ai;rcases(by omega:e=0\/e=1\/e=2)with rfl|rfl|rfl
 .exact c
 .exact d
 .exact(d.times hl).mono ai ai ai
def tn:Nat:=2^84
def td(l:List (Rat×Rat)):Prop:=∀q∈l,bF 360360 6486480 q.1/\bF 360360 6486480 q.2
def td.ii(h:td u)(i:Nat):bF 360360 6486480 (lo' u i)/\bF 360360 12972960 (hi' u i-lo' u i):=by
 have z:bF 360360 6486480 (0:Rat):=⟨0,by rw[Rat.zero_mul];rfl,ai⟩;have:bF 360360 6486480 (lo' u i)/\bF 360360 6486480 (hi' u i):=by
  unfold lo' hi';by_cases hi:i<af u
  .rw[bT,c4 hi];exact h _ (s5 hi)
  .rw[bT,lA aa];exact⟨z,z⟩
 exact⟨this.1,by rw[Rat.sub_eq_add_neg];exact this.2.add this.1.neg⟩
def ava(t:a=1\/a=2)(x:td u)(n:N.2∈kD a)(I:bF 360360 16216200 N.1):(∀c,c<=a->gF a 90 4 4 (jC a (fJ a u) N c))/\eX a (360360*360360*360360) tn 4 4 (jC a (fJ a u) N a):=by
 obtain⟨J,K,_⟩:=CK t (aa:0<a);have d:eX a 360360 16216200 0 1 (jC a (fJ a u) N 0):=(eX.one (t:=(N.1,Z a)) (s:=0) ⟨J,Nat.le_of_eq K⟩ I).f_;have v:gF a 90 4 4 (jC a (fJ a u) N 0):=(d.pb (k:=90) ai ai ai).mono (aJ _) ai ai;obtain⟨E,F⟩:=x.ii 0;obtain⟨g3,G⟩:=x.ii 1;have g:=λe r=>Jw (e:=e) t (aa:0<a) E F r
 have z:jC a (fJ a u) N 1=rI (jC a (fJ a u) N 0) (lq a (kP a 0 (lo' u 0) (hi' u 0-lo' u 0)) (N.2.getD 0 0)):=by rw[<-Bf (aa:0<a)];rfl
 have b:∀ {M V s k:Nat}{p:aF} (j:Nat),eX a M V s k p->M*j=360360*360360*360360->V*j<=tn->s<=4->k<=4->eX a (360360*360360*360360) tn 4 4 p:=λ{M V s k p} j h A B C D=>by have:=(h.up j).mono B C D;rwa[A]at this
 have o:∀ {p:aF},eX a (360360*360360*360360) tn 4 4 p->gF a 90 4 4 p:=λh=>h.pb ai ai ai
 rcases t with rfl|rfl
 .have w:eX 1 (360360*360360*360360) tn 4 4 (jC 1 (fJ 1 u) N 1):=by
   rw[z];simp only[kD,jr,rV,or_false]at n;rcases n with e|e|e<;>rw[e]
   .exact b (360360*360360) (d.times (g 0 ai)) ai ai ai ai
   .exact b 360360 (d.times (g 1 ai)) ai ai ai ai
   .exact b 1 (d.times (g 2 ai)) ai ai ai ai
  refine⟨λc hi=>?_,w⟩;rcases(by omega:c=0\/c=1)with rfl|rfl
  .exact v
  .exact o w
 .have l:=λe r=>Jw (e:=e) (i:=1) (.inr rfl) (ai:1<2) g3 G r
  have H:jC 2 (fJ 2 u) N 2=rI (jC 2 (fJ 2 u) N 1) (lq 2 (kP 2 1 (lo' u 1) (hi' u 1-lo' u 1)) (N.2.getD 1 0)):=by rw[<-Bf (ai:1<2)];rfl
  have q:eX 2 (360360*360360*360360) tn 4 4 (jC 2 (fJ 2 u) N 1)/\eX 2 (360360*360360*360360) tn 4 4 (jC 2 (fJ 2 u) N 2):=by
   rw[H,z];simp only[kD,jr,rV,or_false]at n;have f:=d.times (g 0 ai);have m:=d.times (g 1 ai);have y:=d.times (g 2 ai);rcases n with e|e|e|e|e|e<;>rw[e]
   .exact⟨b (360360*360360) f ai ai ai ai,b (360360*360360) (f.times (l 0 ai)) ai ai ai ai⟩
   .exact⟨b (360360*360360) f ai ai ai ai,b 360360 (f.times (l 1 ai)) ai ai ai ai⟩
   .exact⟨b 360360 m ai ai ai ai,b 360360 (m.times (l 0 ai)) ai ai ai ai⟩
   .exact⟨b (360360*360360) f ai ai ai ai,b 1 (f.times (l 2 ai)) ai ai ai ai⟩
   .exact⟨b 360360 m ai ai ai ai,b 1 (m.times (l 1 ai)) ai ai ai ai⟩
   .exact⟨b 1 y ai ai ai ai,b 1 (y.times (l 0 ai)) ai ai ai ai⟩
  refine⟨λc hi=>?_,q.2⟩;rcases(by omega:c=0\/c=1\/c=2)with rfl|rfl|rfl
  .exact v
  .exact o q.1
  .exact o q.2
def Ua{ls:List aF}(i:af k<=3)(h:∀t∈k,eX a (360360*360360*360360) tn 4 4 (jC a ls t a)):∀m,m<=af k->eX a (360360*360360*360360) (tn*12^m) 4 (4*m) (mL a ls k m)
 |0,_=>⟨(λ_ h=>nomatch h),(λ_ h=>nomatch h),aJ _⟩
 |m+1,q=>by
  obtain⟨t,o,n⟩:=gw (aa:m<af k);have p:=Ua i h m aa;have f:k.getD m (0,[])=t:=by rw[bT,n];rfl
  have j:eX a (360360*360360*360360) (tn*12^m) 4 4 ((jC a ls t a).map (pN 1)):=by
   have b:=h t o;refine⟨λu c=>?_,λu c=>?_,by rw[gD];exact b.l⟩
   .obtain⟨v,d,rfl⟩:=g8.1 c;exact b.e v d
   .obtain⟨v,d,rfl⟩:=g8.1 c;show bF _ _ (1*v.1);rw[Rat.one_mul];exact(b.g v d).mono (yJ _ (gE ai))
  have:=(p.app j).f_;rw[mL,f];refine this.mono ?_ (aJ _) aa;rw[dX,<-dx];exact eN _ aa
theorem au8(d:a=1\/a=2)(k:td u){p:aF}(e:af p<=3)(h:∀t∈p,t.2∈kD a/\aM 15 t.1/\bF 360360 16216200 t.1):
 bm 129 [d_ a p,bE (fZ a) (fJ a u),aj a] (d_ a (mL a (fJ a u) p (af p)))/\gF a 100 4 12 (mL a (fJ a u) p (af p)):=by
 have f:=k.ii;have hT:=λt c=>ava d k (h t c).1 (h t c).2.2
 have n:=Ua (ls:=fJ a u) e λt c=>(hT t c).2
 have j:∀m,m<=af p->gF a 100 4 12 (mL a (fJ a u) p m):=λm g=>((n m g).pb (k:=100) ai ai (fu (eN _ (iI ai (aa:m<=3))) ai)).mono (aJ _) (aJ _) aa
 have r:∀t∈p,∀b,t.2.getD b 0<=2:=λt c b=>by grind [tP,zj]
 have o:∀b,b<a->∀m,m<=2->gF a 90 4 4 (lq a ((fJ a u).getD b []) m):=λb hi m g=>by
  rw[Bf hi];have e:=Jw (e:=m) d hi (f b).1 (f b).2 g;rcases(by omega:m=0\/m=1\/m=2)with rfl|rfl|rfl
  .exact(e.pb (k:=90) ai ai ai).mono (aJ _) ai ai
  .exact(e.pb (k:=90) ai ai ai).mono (aJ _) ai ai
  .exact(e.pb (k:=90) ai ai ai).mono (aJ _) ai ai
 refine⟨avd (k:=30) (s:=1) (l:=2) (K:=90) (S:=4) (L:=4) (Ak:=100) (CB:=12) d (fJ a u) (by unfold fJ;grind) p aa (λt c=>⟨(tP d t.2 (h t c).1).1,λb=>by grind⟩) (λt c=>(h t c).2.1.mono ai) (λq l=>?_) (λt c b hi m g=>o b hi m b4) (λt c=>(hT t c).1) j ai ai ai ai ai,j _ (aJ _)⟩;unfold fJ at l;obtain⟨b,hi,rfl⟩:=g8.1 l;exact(R7 d (List.mem_range.1 hi) (f b).1 (f b).2).pb ai ai ai
def Sv:jN 1=bR 1:=arb (k:=1) ai
def atK:ER 1 2=bR (1/2):=by show V.agg [aR,mag [1],aR,mag [2]]=_;unfold bR bk dd;rw[show((1:Rat)/2).num=1 by decide+kernel,show((1:Rat)/2).den=2 by decide+kernel];show _=V.agg [aR,mag (aU 1),aR,mag (aU 2)];rw[HM (k:=1) ai,HM (k:=2) ai]
theorem at2{a:Nat}(p:d<=2)(o:a<=d)(q:m<=a):∃k j,bm 132 [aj a,aj m] (jN k)/\bm 132 [aj d,aj m] (jN j)/\bm 131 [jN k,jN j] (bR (gu d a m)):=by
 have c:=eo eg Wi;have e:=eo eg Wj;have g:=eo eg Wk;have f:=eo eg Wl;have h:=eo eg Wm;have i:=eo eg Wn;have b:bm 131 [jN 1,jN 1] (bR 1):=by rw[<-Sv];exact eo eg asZ
 have l:bm 131 [jN 1,jN 2] (bR (1/2)):=by rw[<-atK];exact eo eg as0
 have n:bm 131 [jN 2,jN 2] (bR 1):=by rw[<-Sv];exact eo eg as1
 rcases(by omega:(d=0/\a=0/\m=0)\/(d=1/\a=0/\m=0)\/(d=1/\a=1/\m=0)\/(d=1/\a=1/\m=1)\/(d=2/\a=0/\m=0)\/(d=2/\a=1/\m=0)\/(d=2/\a=1/\m=1)\/(d=2/\a=2/\m=0)\/(d=2/\a=2/\m=1)\/(d=2/\a=2/\m=2))with⟨rfl,rfl,rfl⟩|⟨rfl,rfl,rfl⟩|⟨rfl,rfl,rfl⟩|⟨rfl,rfl,rfl⟩|⟨rfl,rfl,rfl⟩|⟨rfl,rfl,rfl⟩|⟨rfl,rfl,rfl⟩|⟨rfl,rfl,rfl⟩|⟨rfl,rfl,rfl⟩|⟨rfl,rfl,rfl⟩
 .exact⟨1,1,c,c,b⟩
 .exact⟨1,1,c,e,b⟩
 .exact⟨1,1,e,e,b⟩
 .exact⟨1,1,g,g,b⟩
 .exact⟨1,1,c,f,b⟩
 .exact⟨1,1,e,f,b⟩
 .exact⟨1,2,g,h,l⟩
 .exact⟨1,1,f,f,b⟩
 .exact⟨2,2,h,h,n⟩
 .exact⟨1,1,i,i,b⟩
def TA(d a e:Nat):aM 2 (gu d a e):=by
 unfold gu;split
 .split
  .exact⟨by decide+kernel,by decide+kernel⟩
  .exact⟨ai,ai⟩
 .exact⟨ai,ai⟩
def asT{ds:au}{a:Rat}(f:nS c a)(g:nS ds h)(i:aM d a)(j:aM m h)(k:d+m<=10000)(H:ah):dm 37 [.agg c,.agg ds] H λu e=>u=bR (a+h)/\e=H:=by
 have b:=Tf f h i j k H;rcases g with rfl|⟨rfl,rfl⟩
 .exact b
 .rw[EE]at b;exact C3 (.f2 .mm (.agg (.f4 .mm .gK .mm .gK))) b
def pB:au->List Rat->Prop
 |xs,[]=>xs=[]
 |xs,q::c=>∃a b,xs=a++b/\nS a q/\pB b c
def nS.len(a:nS c h):af c=4:=by rcases a with rfl|⟨rfl,_⟩<;>rfl
def pB.B5(a:nS c h):∀ {b:List Rat}{d:au},pB d b->pB (d++c) (b++[h])
 |[],_,f=>by rw[show _=[]from f];exact⟨c,[],aI,a,rfl⟩
 |_::_,_,⟨ds,j,e,g,i⟩=>⟨ds,j++c,by rw[e,gX],g,pB.B5 a i⟩
def pB.len:∀ {a:List Rat}{b:au},pB b a->af b=af a*4
 |[],_,h=>by rw[show _=[]from h];rfl
 |_::a,_,⟨ds,f,e,c,d⟩=>by rw[e,bw,c.len,pB.len d,dZ];omega
variable{b:ah}
def pB.eA{H2:ah}:∀ {a:List Rat}{d:au},pB d a->dn b H2 d (c3 bk a)
 |[],_,h=>by rw[show _=[]from h];exact .nil
 |q::a,_,⟨ds,g,e,f,c⟩=>by
  rw[e];show dn b H2 (ds++g) (bk q++c3 bk a);rcases f with rfl|⟨rfl,rfl⟩
  .exact .cons (.same _) (.cons (.same _) (.cons (.same _) (.cons (.same _) (pB.eA c))))
  .have:=EE;unfold bR at this;rw[V.agg.inj this];exact .cons (.same _) (.cons .gK (.cons (.same _) (.cons .gK (pB.eA c))))
def wU(t:b9)(D:Nat->Nat)(a:av):Nat->Rat
 |0=>t.1
 |k+1=>wU t D a k*gu (D k) (a.getD k 0) (t.2.getD k 0)
def T2(b:d=1\/d=2)(t:b9)(D:Nat->Nat)(a:av):wU t D a d=t.1*lO d D (λi=>a.getD i 0) t.2:=by
 unfold lO;rcases b with rfl|rfl
 .rw[ay rfl,uF];rfl
 .rw[ao ai];exact Rat.mul_assoc _ _ _
def auK(c:d=1\/d=2)(e:m<d){D:Nat->Nat}{a:av}(h:¬N.2.getD m 0<=a.getD m 0):wU N D a d=0:=by
 have b:gu (D m) (a.getD m 0) (N.2.getD m 0)=0:=by unfold gu;rw[ao h]
 rcases c with rfl|rfl
 .obtain rfl:m=0:=aa;show N.1*gu _ _ _=0;rw[b,Rat.mul_zero]
 .rcases(by omega:m=0\/m=1)with rfl|rfl
  .show N.1*gu (D 0) _ _*gu (D 1) _ _=0;rw[b,Rat.mul_zero,Rat.zero_mul]
  .show _*gu (D 1) _ _=0;rw[b,Rat.mul_zero]
def E3(b:aM 100 N.1)(D:Nat->Nat)(a:av):∀k,aM (100+2*k) (wU N D a k)
 |0=>b
 |k+1=>((E3 b D a k).mul (TA _ _ _)).mono aa
set_option maxHeartbeats 1000000 in
def at3{n:Nat}(T:n=1\/n=2){b a:av}(B:nL n b)(D:jn b a){t:b9}(tl:t.2.length=n)(W:aM 100 t.1)(tb:∀i,t.2.getD i 0<=1000){C:Nat}{oK:V}{v:V}{F:Fr}{H:ah}{R:b5}(A:7<C/\C<H.ag)(bp:H.get 7=an [oK,bf b,v] 0)(O:H.get C=an (bk t.1) 0)
 (j:rd 5 F=.ptr 7 0) (m:rd 11 F=bf a) (g:rd 15 F=.ptr C 0) (q:rd 71 F=bf t.2) (z:rd 72 F=aj n) (N:rd 73 F=aj 0)
 (h:∀l d,gG [4,5,9,11,12,15,55,56,57,62,63,64] l F->eC C H d->(∃s,nS s (wU t (λi=>b.getD i 0) a n)/\d.get C=an s 0)->C<d.ag->R .norm l d):bK (.loop (pc 76 7)) (hD 6 R) F H:=by
 have Z:=B.1;have ab:=D.1;simp only[ak 76 kr 7,ak 76 kr 6,ak 76 kr 5,ak 76 kr 4];refine each n [4,5,9,11,12,15,55,56,57,62,63,64,71,72] C (λk _ d=>d.get C=an (bk (wU t (λi=>b.getD i 0) a k)) 0/\C<d.ag) N z aa ai aa (λ_ _ _ _ _ _ h=>h) ⟨O,A.2⟩ ?_ ?_
 .rintro k l d S c hh hi ⟨f,o⟩;simp only[go_sem]at c;have eB:=(hh.1 7 A.1).trans bp;have I:=j8 (l:=t.2) (i:=(k:Int)) (k:=.i64) aa;have J:=j8 (l:=a) (i:=(k:Int)) (k:=.i64) aa;have K:=j8 (l:=b) (i:=(k:Int)) (k:=.i64) aa;have u:=jc (l:=t.2) (i:=k) aa;have w:=jc (l:=a) (i:=k) aa;have y:=jc (l:=b) (i:=k) aa;have P:=D.2 k;have Q:b.getD k 0<=2:=by obtain⟨x,U,e⟩:=gw (aa:k<b.length);rw[bT,e];exact B.2 x U
  by_cases E:t.2.getD k 0<=a.getD k 0
  .have p:(((a.getD k 0:Nat):Int)<((t.2.getD k 0:Nat):Int))=False:=eq_false aa;obtain⟨X,Y,L,M,r⟩:=at2 Q P E;have G:=sF (wU t (λi=>b.getD i 0) a k) (gu (b.getD k 0) (a.getD k 0) (t.2.getD k 0)) (E3 W _ _ k) (TA _ _ _) aa;simp only[jN]at L M r;simp only[bR,bk]at G r f;simp only[go_sem,c,hi,j,m,g,q,eB,I,J,K,u,w,y,p,f];refine use L ?_;simp only[go_sem,c,hi,j,g,eB,K,y,f];refine use M ?_;simp only[go_sem,c,hi,g,f];refine use r ?_;simp only[go_sem,c,hi,g,f];refine use G ?_;simp only[go_sem,c,hi,j,m,g,q,z,f];exact⟨eC.set hh (aJ _) _,rfl,o⟩
  .have p:(((a.getD k 0:Nat):Int)<((t.2.getD k 0:Nat):Int))=True:=eq_true aa;simp only[bk]at f;simp only[go_sem,c,hi,j,m,g,q,I,J,u,w,p,f];refine h _ _ ?_ (eC.set hh (aJ _) _) ⟨_,.inr ⟨rfl,auK T S E⟩,by rw[ah.aT,ay rfl]⟩ o;simp only[go_sem,c,j,m,g]
 .rintro l d c hh ⟨f,o⟩;simp only[go_sem]at c;refine h l d ?_ hh ⟨_,.inl rfl,f⟩ o;simp only[go_sem,c,j,m,g]
set_option maxHeartbeats 1000000 in
def aqN{n:Nat}(C:n=1\/n=2){c a:av}(Z:nL n c)(ha:jn c a){d:aF}(r:gF n 100 4 12 d){S:Nat}{oK v:V}{F:Fr}{H:ah}{R:b5}(J:7<S/\S<H.ag)(bp:H.get 7=an [oK,bf c,v] 0)(X:H.get S=an [aR,.aA,aR,.aA] 0)
 (A:rd 5 F=.ptr 7 0) (x:rd 11 F=bf a) (z:rd 12 F=.ptr S 0) (E:rd 62 F=bN d) (G:rd 63 F=aj (af d)) (W:rd 64 F=aj 0)
 (h:∀k b,gG [4,5,9,11,12,55,56,57] k F->eC S H b->(∃g,nS g (br (lO n (λi=>c.getD i 0) λi=>a.getD i 0) d)/\b.get S=an g 0)->S<b.ag->R .norm k b):bK (.loop (pc 76 11)) (hD 4 R) F H:=by
 have a7:=r.l;simp only[ak 76 kr 11,ak 76 kr 10,ak 76 kr 9,ak 76 kr 8];refine each (af d) [4,5,9,11,12,55,56,57,62,63] S (λm _ b=>(∃g,nS g (br (lO n (λi=>c.getD i 0) λi=>a.getD i 0) (d.take m))/\b.get S=an g 0)/\S<b.ag) W G aa ai aa (λ_ _ _ _ _ _ h=>h) ⟨⟨_,.inr ⟨rfl,rfl⟩,X⟩,J.2⟩ ?_ ?_
 .rintro m k b hm f hh hi ⟨⟨g,j,Y⟩,p⟩;simp only[go_sem]at f;obtain⟨t,M,L⟩:=gw hm;obtain⟨Q,ts⟩:=r.e t M;have T:=r.q t M;have tb:∀i,t.2.getD i 0<=1000:=λi=>by have:=zj t.2 i;omega
  have ap:=ny (l:=d) (i:=(m:Int)) (k:=.i64) aa;have P:=Cf L;have ll:di (bf t.2)=some (.val (aj n)):=by rw[<-Q];rfl
  have eB:=(hh.1 7 J.1).trans bp;have ns:=ek p;have a6:=ek (aa:S<b.ag+1);have n1:=ek (aa:b.ag<b.ag+1);simp only[gz]at P;simp only[go_sem,f,hi,E,ap,P,n1,ll];generalize o:ah.set _ (b.ag+1) _=w
  have O:∀y,y<b.ag->w.get y=b.get y:=λy s=>by rw[<-o];simp(disch:=omega)only[go_sem,g6]
  have U:w.get (b.ag+1)=an (bk t.1) 0:=by rw[<-o];simp only[go_sem];rfl
  have n2:w.ag=b.ag+2:=by rw[<-o];simp only[go_sem]
  clear o;refine at3 C Z ha Q T tb (C:=b.ag+1) (oK:=oK) (v:=v) aa ((O 7 aa).trans eB) U ?_ ?_ ?_ ?_ ?_ ?_ ?_
  iterate 6 simp only[go_sem,f,A,x]
  .rintro a3 D B ac ⟨ds,N,g3⟩ a4;simp only[go_sem,f,hi]at B;have bX:∀y,y<b.ag->D.get y=b.get y:=λy s=>(ac.1 y aa).trans (O y s)
   have I:=(bX S p).trans Y;have ae:=DK (f:=lO n (λi=>c.getD i 0) λi=>a.getD i 0) (k:=104) (d.take m) λu hu=>by rw[<-T2 C];exact(E3 (r.q u (oD hu)) _ _ n).mono aa
   have al:aM ((104+1)*12+1) (br (lO n (λi=>c.getD i 0) λi=>a.getD i 0) (d.take m)):=ae.mono (by rw[e8];have:=eN (104+1) (aa:min m (af d)<=12);omega)
   have K:=asT j N al ((E3 T (λi=>c.getD i 0) a n).mono (aa:100+2*n<=104)) ai D;have l4:=j.l4;have ar:=N.l4;have a0:=j.put;simp only[bR,bk]at K;simp only[go_sem,B,z,I,g3,l4,ar];refine K.mono ?_;rintro _ _ ⟨rfl,rfl⟩;simp only[go_sem,f,hi,B,A,x,z,E,G,I,a0];refine⟨⟨λy s=>?_,by show S<=ah.ag _;simp only[go_sem];omega⟩,⟨_,.inl ?_,rfl⟩,aa⟩
   .rw[ah.aT,ao aa,bX y aa];exact hh.1 y s
   .rw[vq L,zh,show br (lO n (λi=>c.getD i 0) λi=>a.getD i 0) [t]=wU t (λi=>c.getD i 0) a n by rw[T2 C];exact Rat.add_zero _];rfl
 .rintro k b f hh ⟨j,p⟩;simp only[go_sem]at f;rw[qM]at j;refine h k b ?_ hh j p;simp only[go_sem,f,A,x,z]
def arQ(a:nS c h):bM (.agg c)=true/\cellsOf (.agg c)=c/\dI c=true/\bt (c_ c) 4=true:=by rcases a with rfl|⟨rfl,_⟩<;>exact⟨rfl,rfl,rfl,rfl⟩
def Gz(n:Nat)(p:aF)(l:List (Rat×Rat))(a:av):Rat:=br (lO n (λi=>(c8 n p).getD i 0) λi=>a.getD i 0) (mL n (fJ n l) p (af p))
set_option maxHeartbeats 2000000 in
theorem aqE{n:Nat}(r:n=1\/n=2){p:aF}(hp:af p<=3)(hm:∀t∈p,t.2∈kD n/\aM 15 t.1/\bF 360360 16216200 t.1){l:List (Rat×Rat)}(hl:af l=n)(hg:td l)(d4:∀q∈l,aM 9 q.1/\aM 9 q.2):
 bm 76 [d_ n p,bE jU l] (.agg [bE jU l,bf (c8 n p),bE bk ((iV (c8 n p)).map (Gz n p l))]):=by
 have K:∀t∈p,t.2.length=n/\∀i,t.2.getD i 0<=2:=λt o=>⟨(tP r t.2 (hm t o).1).1,λi=>by grind [tP,zj]⟩
 have bs:=aiN n aa p aa λt o=>⟨(K t o).1,λi=>by grind⟩
 have W:nL n (c8 n p):=⟨HL n p,λd hd=>by unfold c8 at hd;obtain⟨i,_,rfl⟩:=g8.1 hd;exact PE λt o=>(K t o).2 i⟩
 have d0:=ame r W;obtain⟨_,dT⟩:=D6 r W;obtain⟨a0,b'⟩:=au8 r hg hp hm;have il:af (iV (c8 n p))<=9:=v5 r (P:=λD=>af (iV D)<=9) ai ai W;unfold Gz;generalize mL n (fJ n l) p (af p)=q at a0 b'⊢
 generalize c8 n p=D at*
 obtain⟨O,ad⟩:∃O,O=(iV D).map λa=>br (lO n (λi=>D.getD i 0) λi=>a.getD i 0) q:=⟨_,rfl⟩
 rw[<-ad];obtain⟨j,P⟩:∃j,j=bE jU l:=⟨_,rfl⟩;have eK:di j=some (.val (aj n)):=by rw[P];unfold bE;rw[hl];rfl
 have bo:bM j=true/\cellsOf j=[j]/\V.one j=true:=by rw[P];exact⟨rfl,rfl,rfl⟩
 have fb:bA j:=by rw[P];exact hH (λs=>l5 (mE _) (mE _)) l
 have db:bA (.agg [j,bf D,bE bk O]):=.agg (.f3 fb (n6 _) (hH mE _));rw[<-P];simp only[d_,fZ]at bs a0⊢;refine nF (.f2 (.agg (.f2 .ii (uT _))) fb) (AL kr 4 114 ?_);simp only[go_sem,aV 76 kr,ak 76 kr 21,ak 76 kr 20,ak 76 kr 19,aS.cutAt];refine use bs ?_;simp only[go_sem,bo,eK];generalize J:ah.set _ 7 _=I
 have al:I.get 5=an [aj n,bN p] 0:=by rw[<-J];simp only[go_sem]
 have bb:I.get 6=an [.aA,.aA,.aA] 0:=by rw[<-J];simp only[go_sem]
 have bp:I.get 7=an [j,bf D,.aA] 0:=by rw[<-J];simp only[go_sem]
 have dd:∀y,y<5->I.get y=.none:=λy c=>by rw[<-J];simp(disch:=omega)only[go_sem,g6]
 have n0:I.ag=8:=by rw[<-J];simp only[go_sem]
 clear J;simp only[ak 76 kr 3,ak 76 kr 2,ak 76 kr 1,ak 76 kr 0];have fs:af (fJ n l)=n:=by unfold fJ;grind
 refine each n [2,4,5,22,23] 8 (λm F f=>∃G g,rd 6 F=G/\bn f 2 G (c3 (fZ n) ((fJ n l).take m)) g/\(g=0\/8<=g)) ?_ ?_ aa ai aa (λm F H u v Q e=>by rcases Q with rfl|rfl|rfl<;>(simp only[go_sem];exact e)) ⟨.aA,0,?_,.nil,.inl rfl⟩ ?_ ?_
 iterate 3 simp only[go_sem]
 .rintro m c1 f aw A hh hi ⟨G,g,T,x,dt⟩;simp only[go_sem]at A;obtain⟨b,d5,b2⟩:=gw (aa:m<af l);have h8:=hh.2;obtain⟨z,Y⟩:=d4 b d5;have N:=(hh.1 5 ai).trans al;have ib:=iq (f:=jU) (k:=8) (l:=l) (i:=(m:Int)) (ik:=.i64) aa;have rb:=jO (f:=jU) (k:=8) (λ_=>rfl) b2;rw[<-P]at ib;have hc:=GC n 0 r aa b.1 (z.mono ai);have hs:=BS b.2 b.1 Y z ai;have hv:=awc n m r aw;obtain⟨eQ,e0,e1,sY⟩:=CK r aw;have b1:=asi n r (f_ [(b.1,Z n)]) (BG _) (λt o=>by obtain⟨u,Q,e⟩:=EB o;rw[fj.1 Q]at e;rw[e];exact⟨eQ,by rw[show(Z n).sum=0 from e0];exact cj _⟩) (λt o=>(JE (k:=9) (λu Q=>by rw[fj.1 Q];exact z) t o).mono (ai:(9+1)*1<=200)) (b.2-b.1) ((Y.sub z).mono ai) (1,U n m) (wO.mono ai) (λt o=>by rw[fj.1 o];exact⟨e1,by rw[show(U n m).sum=1 from sY];decide⟩);have d1:(fJ n l)[m]? =some (kP n m b.1 (b.2-b.1)):=by unfold fJ;rw[hY,p4 aw];show some (kP n m (l.getD m (0,0)).1 ((l.getD m (0,0)).2-(l.getD m (0,0)).1))=_;rw[bT,b2];rfl
  have X:=ek (aa:5<f.ag);simp only[jU,bk,gv,fS]at rb;simp only[d_,fZ,bR,bk]at hc hs hv b1;simp only[go_sem,A,hi,T,ib,rb,N,X];refine use hc ?_;simp only[go_sem,A,N,X];refine use hs ?_;simp only[go_sem,A,N,X];refine use hv ?_;simp only[go_sem];refine use b1 ?_;simp only[go_sem,T];generalize K:ah.set _ f.ag _=H2
  have k2:∀y,y<f.ag->H2.get y=f.get y:=λy c=>by rw[<-K];simp(disch:=omega)only[go_sem,g6]
  have n2:H2.ag=f.ag+1:=by rw[<-K];simp only[go_sem]
  clear K;rw[<-n2];have fn:=lN (fZ n) (Ez n) ((fJ n l).take m);have fg:af ((fJ n l).take m)<=m:=by rw[e8];omega
  refine kM (bytes:=32) (new:=fZ n (kP n m b.1 (b.2-b.1))) (x.low k2 aa) rfl ai rfl ⟨aa,ai⟩ λv' H3 g' z Y ab el=>?_
  simp only[go_sem,A,hi];refine⟨⟨λy c=>?_,aa⟩,v',g',rfl,?_,aa⟩
  .rw[ab y aa aa,k2 y aa];exact hh.1 y c
  .rw[Ce d1,yd];have:c3 (fZ n) [kP n m b.1 (b.2-b.1)]=fZ n (kP n m b.1 (b.2-b.1)):=hU _;rw[this];exact z
 .rintro c1 f A hh ⟨G,g,T,x,dt⟩;simp only[go_sem]at A;rw[dr aa]at x;have cf:∀y C g,y<8->f.get y=an C g->g=0:=λy C g c e=>by
   rw[hh.1 y c]at e;by_cases h5:y<5
   .rw[dd y h5]at e;cases e
   .rcases(aa:y=5\/y=6\/y=7)with rfl|rfl|rfl
    .rw[al]at e;cases e;rfl
    .rw[bb]at e;cases e;rfl
    .rw[bp]at e;cases e;rfl
  have h8:=hh.2;simp only[go_sem];refine Cs (t:=6) (r:=bE (fZ n) (fJ n l)) [2,4,5] (k:=8) ai cf ai ?_ λe2 eq L=>?_
  .rw[T];exact uV (Ez n) ai x (dn.refl _) (λy h0 h1=>by rw[ah.kN,ao (λc=>h0 (cf y _ _ c h1))]) (lN (fZ n) (Ez n) _)
  simp only[go_sem,A]at L;have lo:∀y,y<8->(f.low 8).get y=I.get y:=λy c=>by rw[ah.kN,ay c];exact hh.1 y c
  have nl:(f.low 8).ag=f.ag:=rfl;generalize f.low 8=w at lo nl⊢
  have d8:=(lo 5 ai).trans al;have d9:=(lo 6 ai).trans bb;have ch:=(lo 7 ai).trans bp;have et:=ek (aa:7<w.ag);have rl:di (bE mX (iV D))=some (.val (aj (af (iV D):Int))):=rfl;simp only[go_sem,ak 76 kr 18,jm kr,L,eq,d8];refine use a0 ?_;simp only[go_sem,ak 76 kr 17,L,et,ch];refine use d0 ?_;simp only[go_sem,rl];generalize S:ah.set _ w.ag _=H5
  have N:∀y,y<w.ag->H5.get y=w.get y:=λy c=>by rw[<-S];simp(disch:=omega)only[go_sem,g6]
  have a5:H5.get w.ag=an [aj n,bN q] 0:=by rw[<-S];simp only[go_sem]
  have X:H5.ag=w.ag+1:=by rw[<-S];simp only[go_sem]
  clear S;simp only[ak 76 kr 15,ak 76 kr 14,ak 76 kr 13,ak 76 kr 12];refine each (af (iV D)) [4,5,9,55,56] 7 (λm _ k=>k.get w.ag=an [aj n,bN q] 0/\∃v G g,k.get 7=an [j,bf D,v] 0/\bn k 4 v G g/\pB G (O.take m)/\(g=0\/w.ag<g)/\w.ag<k.ag) ?_ ?_ aa ai aa (λ_ _ _ _ _ _ h=>h) ⟨a5,.aA,[],0,(N 7 aa).trans ch,.nil,rfl,.inl rfl,aa⟩ ?_ ?_
  iterate 2 simp only[go_sem]
  .rintro m c2 k d2 B am ap ⟨a9,v,ys,g,R,x,M,du,b0⟩;simp only[go_sem,L]at B;obtain⟨a,dp,ha⟩:=gw d2;have dE:=dT a dp;have d7:=iq (f:=mX) (k:=1) (l:=iV D) (i:=(m:Int)) (ik:=.i64) aa;have es:dw (c3 mX (iV D)) m=some (bf a):=by have:=jO (f:=mX) (k:=1) (λ_=>rfl) ha;rw[eD]at this;exact Eh (k:=0) this
   have em:di (bN q)=some (.val (aj (af q))):=rfl;have ev:=ek (aa:7<k.ag);have ex:=ek b0;simp only[go_sem,B,ap,d7,es,ex,a9,em];refine aqN r W dE b' (S:=k.ag) (oK:=j) (v:=v) ff (by simp only[go_sem,ev,R]) eJ ?_ ?_ ?_ ?_ ?_ ?_ λe' a4 ar dC E fd=>?_
   iterate 6 simp only[go_sem,B]
   .simp only[go_sem,B,ap]at ar;obtain⟨C,E,gs⟩:=E;obtain⟨o1,o2,ci,eh⟩:=arQ E;have l4:=E.l4;have dq:CX 1 [(0,4)] [aR,.aA,aR,.aA] [.agg C]=some (.new C (.slice 1 1)):=by rcases E with rfl|⟨rfl,_⟩<;>rfl
    have eB:∀y,y<k.ag->a4.get y=k.get y:=λy c=>by rw[dC.1 y c];simp only[go_sem,ek c]
    have a7:=(eB 7 aa).trans R;have dv:=x.low eB aa;have fp:=M.len;have fi:af (O.take m)<=9:=by rw[e8,ad,gD];omega
    have fv:=ek (aa:7<a4.ag);have d6:O[m]? =some (br (lO n (λi=>D.getD i 0) λi=>a.getD i 0) q):=by rw[ad,hY,ha];rfl
    simp only[go_sem,ar,a7,gs,l4,o1,o2,ci,eh,dq];refine kM (bytes:=64) (new:=C) dv (by rw[E.len]) ai ci ⟨aa,ai⟩ λv' c' g' z Y ab el=>?_
    have a8:=(ab 7 aa aa).trans a7;obtain⟨p3,cp,a1⟩:=z.bM;simp only[go_sem,L,B,ap,ar,a8,p3,cp,a1];refine⟨⟨λy c=>?_,by show 7<=c'.ag;omega⟩,?_,v',ys++C,g',rfl,?_,?_,aa,aa⟩
    .rw[ah.aT,ao aa,ab y aa aa,eB y aa];exact am.1 y c
    .grind
    .exact z.set a8 _
    .rw[Ce d6];exact pB.B5 E M
  .rintro c2 k B am ⟨a9,v,ys,g,R,x,M,du,b0⟩;simp only[go_sem,L]at B;rw[dr b4]at M;have a6:k.get 6=an [.aA,.aA,.aA] 0:=(am.1 6 ai).trans ((N 6 aa).trans d9);obtain⟨p3,cp,a1⟩:=x.bM;simp only[go_sem,ak 76 kr 16,B,a6,R,bo,a1];refine⟨_,.agg (.f3 .mm .mm ?_),db,rfl⟩;exact uV wP ai (x.set a6 _) M.eA (λy h0 h1=>ah.hL _ _) M.len
def XD(h:iJ d k u):(iV (c8 d k)).map (Gz d k u)=vals (pr (c8 d k)) (gP d k u):=by
 rw[UF h];refine List.map_congr_left λa b=>?_
 exact avb h λi=>((D6 h.hn h.bC).2 a b).2 i
def aqT(c:Rat)(l:List Rat):kC c (c::l)=kC c l:=by show kC (if e6 (c-c)<0 then c else c) l=_;rw[ite_self]
def td.up(h:td u)(a:∀t∈k,bF 360360 16216200 t.1):xm k u:=⟨λq b=>by have:=h q b;exact⟨(this.1.up 16).mono ai,(this.2.up 16).mono ai⟩,a⟩
theorem ata{p:aF}(h:iJ a p u)(e:td u)(l:∀q∈u,aM 9 q.1/\aM 9 q.2)(k:af p<=3)(f:∀t∈p,t.2∈kD a/\aM 15 t.1/\bF 360360 16216200 t.1):
 ∃hi,bm 32 [d_ a p,bE jU u] (.agg (q_ (ju a p u) hi)):=by
 have c:=aqE h.hn k f h.eK e l;have m:=(Bn h (e.up λt n=>(f t n).2.2)).2;rw[XD h]at c;obtain⟨j,w⟩:=Cp (EA (c8 a p)) (gP a p u);have v:=(zz h.hn h.bC).1;have d:bA (bE jU u):=hH (λs=>l5 (mE _) (mE _)) u;have b:=asW (bE jU u) (bf (c8 a p)) ⟨d,rfl⟩ ⟨n6 _,rfl⟩ (gP a p u 0) (vals (pr (c8 a p)) (gP a p u)).tail aa (k:=240) (λx g=>by rw[<-j]at g;obtain⟨i,_,rfl⟩:=g8.1 g;exact m i) ai
 rw[aqT,<-j]at b;change bm 75 _ (.agg (q_ (ju a p u) _))at b;refine⟨mb (gP a p u 0) (vals (pr (c8 a p)) (gP a p u)),?_⟩;generalize mb (gP a p u 0) (vals (pr (c8 a p)) (gP a p u))=r at b⊢
 generalize ju a p u=o at b⊢
 refine nF (.f2 (kA _ _) d) (eM Tryz.f32 (h:=?_));simp only[d_,fZ]at c⊢;simp only[q_,bk,gv,fS]at b⊢;simp only[go_sem];refine use c ?_;simp only[go_sem];refine use b ?_;simp only[go_sem];exact⟨_,.same _,.agg (l5 (mE o) (mE r)),rfl⟩
theorem ak3{V:Nat}{y:Rat}(k:bF a V h)(l:bF a V y)(p:d<=8):bF (a*8) (V*8) (h+(d:Rat)/8*(y-h)):=by
 obtain⟨b,f,i⟩:=k;obtain⟨c,g,j⟩:=l;have e:((a*8:Nat):Rat)=a*8:=by rw[Rat.natCast_mul];rfl
 have oN:((8-d:Nat):Rat)=8-d:=by rcases(by omega:d=0\/d=1\/d=2\/d=3\/d=4\/d=5\/d=6\/d=7\/d=8)with rfl|rfl|rfl|rfl|rfl|rfl|rfl|rfl|rfl<;>decide+kernel
 refine⟨((8-d:Nat):Int)*b+(d:Int)*c,?_,?_⟩
 .rw[Rat.intCast_add,xq,xq,<-f,<-g,Rat.intCast_natCast,Rat.intCast_natCast,e,oN]
  grind
 .have m:(((8-d:Nat):Int)*b).natAbs<=(8-d)*V:=by rw[nM,eU];exact eN _ i
  have n:((d:Int)*c).natAbs<=d*V:=by rw[nM,eU];exact eN _ j
  have o:(8-d)*V+d*V=V*8:=by rw[<-fT,(aa:8-d+d=8),dy]
  omega
theorem WI{y:Rat}(d:h<=y)(g:a<=8):h<=h+(a:Rat)/8*(y-h)/\h+(a:Rat)/8*(y-h)<=y:=by
 have c:(0:Rat)<=(a:Rat)/8/\(a:Rat)/8<=1:=by rcases(by omega:a=0\/a=1\/a=2\/a=3\/a=4\/a=5\/a=6\/a=7\/a=8)with rfl|rfl|rfl|rfl|rfl|rfl|rfl|rfl|rfl<;>decide+kernel
 have b:0<=y-h:=b4;have e:=Rat.mul_nonneg c.1 b;have f:=Rat.mul_nonneg (show 0<=1-(a:Rat)/8 by grind) b;constructor<;>grind
def Pw{n:Nat}(h:n<10^8):af (dec n)<=8:=by
 unfold dec;split
 .decide
 .exact qZ h
def avQ(c:bF 2882880 51891840 h):af (aO h)<=30:=by
 obtain⟨z,e,d⟩:=c.eq ai;obtain⟨a,b⟩:=mk_le z (m:=2882880) ai;rw[<-e]at a b;have i:=Pw (n:=h.num.natAbs) (fu (c5 a d) ai);have j:=Pw (n:=h.den) (fu b ai);unfold aO;rw[bw,bw];have f:af (if h.num<0 then [(45:UInt8)]else [])<=1:=by split<;>simp
 have g:af (if h.den=1 then []else(47:UInt8)::dec h.den)<=9:=by
  split
  .simp
  .rw[dZ];omega
 omega
theorem atY{y:Rat}(a:h<=y):e6 (h-y)<=0:=by
 rcases(by grind:h<y\/h=y)with e|e
 .rw[yf e];decide
 .subst e;rw[Rat.sub_self];decide
structure KZ (n:Nat) (l:List (Rat×Rat)) (xs:List Rat):Prop where
 len:af xs=n
 g:∀i,bF 2882880 51891840 (xs.getD i 0)
 b:∀i,lo' l i<=xs.getD i 0/\xs.getD i 0<=hi' l i
def aqj{p:fM}{t:aY}(o:t.aG p){a:List Rat}(h:KZ p.n (iY (t.bs 0)) a):∃k:Int,rj p t (a.map aO)=.aH [aj k,aj 0]:=by
 have l:sw (a.map aO) 0<0:=by
  rw[IF _ 0 λj _ u c=>by
   rw[hY]at c;cases e:a[j]? with
   |none=>rw[e]at c;cases c
   |some q=>rw[e]at c;cases c;exact I9 q]
  decide
 have hl:=o.len 0 aa;refine⟨(vb t (m3 (a.map aO)) t.s 0:Nat),?_⟩
 .unfold rj;rw[ao (by simpa using l),ao (by rw[gD,h.len];simp),ao];rintro⟨i,hi,d⟩;obtain⟨f,g⟩:=h.b i;unfold lo' at f;unfold hi' at g;rw[JC aa]at f g;have m:m3 (a.map aO) i=a.getD i 0:=by unfold m3;rw[bT,bT,hY,c4 (by rw[h.len];exact hi)];exact eT _
  rw[m]at d;unfold nE at d;have r:0<=e6 (a.getD i 0-((t.bs 0).getD i fc).lo):=J7 f;have v:e6 (a.getD i 0-((t.bs 0).getD i fc).hi)<=0:=atY g;rw[bP aa,bP aa,Bool.and_false,Bool.and_false]at d;cases d
set_option maxHeartbeats 2000000 in
def XX(l:List Int)(hl:af l<=400)(hz:kY l)(p:fM)(x:p.aG)(t:aY)(A:t.aG p)(tb:vT p t)(bb:td (iY (t.bs 0)))(ae:aM 81 (ju p.n p.obj (iY (t.bs 0))))(i0:Nat)(dC:i0<=af l)(F:Fr)(H:ah)
 (Z:rd 3 F=.ptr 5 0) (f4:rd 4 F=.ptr 6 0) (f6:rd 6 F=bE jU (iY (t.bs 0))) (f8:rd 8 F=.ptr 7 0) (f9:rd 9 F=.ptr 8 0) (df:H.get 5=an (dN l i0) 0) (dk:H.get 6=an (JB p) 0) (bp:H.get 7=an (bk (ju p.n p.obj (iY (t.bs 0)))) 0) (hJ:H.get 8=an (jY t p.n (ju p.n p.obj (iY (t.bs 0)))) 0)
 (d1:9<=H.ag) (bo:∀y,y<5->H.get y=dV.get y):bK (aS.cutAt 5 104 2 (pc 5 7)) (gC (rE jT) λv1 c=>GT c/\∃v,bS c (dV.nW c.ag) v1 v/\bA v/\v=cY) F H:=by
 have hn:=x.n;obtain⟨a1,_⟩:=tb.Jr x A (aa:0<=2*t.s);have be:=a1.eK;obtain⟨E,a8⟩:∃E,E=ju p.n p.obj (iY (t.bs 0)):=⟨_,rfl⟩;obtain⟨o,N⟩:∃o,o=iY (t.bs 0):=⟨_,rfl⟩;rw[<-N]at bb f6 be;rw[<-a8]at ae bp hJ;have eK:di (bE jU o)=some (.val (aj p.n)):=by rw[<-be];rfl
 have db:=tG 8 ai;simp only[go_sem,ak 5 jT 7,ak 5 jT 6,aS.cutAt,f6,eK];simp only[ak 5 jT 3,ak 5 jT 2,ak 5 jT 1,ak 5 jT 0];refine each p.n [3,4,8,9,56,57] 5 (λm Y c=>∃(d:List Rat) (r i:Nat),i<=af l/\c.get 5=an (dN l i) 0/\(∀y,6<=y->y<9->c.get y=H.get y)/\bn c 4 (rd 12 Y) (c3 bk d) r/\(r=0\/9<=r)/\9<=c.ag/\af d=m/\∀j,j<m->bF 2882880 51891840 (d.getD j 0)/\lo' o j<=d.getD j 0/\d.getD j 0<=hi' o j) ?_ ?_ aa ai aa (λm F H u v T e=>by rcases T with rfl|rfl|rfl<;>(simp only[go_sem];exact e)) ⟨[],0,i0,dC,df,λ_ _ _=>rfl,?_,.inl rfl,d1,rfl,λ_ h=>(nP _ h).elim⟩ ?_ ?_
 iterate 2 simp only[go_sem]
 .simp only[go_sem];exact .nil
 .rintro m Y c ed B hh hi ⟨d,r,i,bj,V,J,ar,du,d0,K,U⟩;simp only[go_sem,Z,f4,f8,f9]at B;obtain⟨a,d2,b2⟩:=gw (aa:m<af o);obtain⟨q1,co⟩:=bb a d2;have b1:o.getD m (0,0)=a:=by rw[bT,b2];rfl
  have ib:=iq (f:=jU) (k:=8) (l:=o) (i:=(m:Int)) (ik:=.i64) aa;have rb:=jO (f:=jU) (k:=8) (λ_=>rfl) b2;simp only[jU,bk,gv,fS]at rb;have cf:=ek (aa:5<c.ag);simp only[go_sem,B,hi,ib,rb];refine jj (oX l hl hz 9 ai) ai bj ?_ ?_
  .simp(disch:=omega)only[go_sem,g6,cf,V]
  rintro _ i1 ⟨k,eb,rfl⟩ dE;have X:aM 27 a.1:=q1.rC ai ai ai;have a7:aM 27 a.2:=co.rC ai ai ai;have dt:=tG (k:Int) aa;have ap:=zi (k:Int) 8 ai (wT aa) (wT ai);have hw:oE (k:Int) 8=(k:Rat)/8:=by rw[show(8:Int)=((8:Nat):Int)from rfl,Rat.divInt_eq_div];rfl
  rw[hw]at ap;have cp:aM 4 ((k:Rat)/8):=by rcases(by omega:k=0\/k=1\/k=2\/k=3\/k=4\/k=5\/k=6\/k=7\/k=8)with rfl|rfl|rfl|rfl|rfl|rfl|rfl|rfl|rfl<;>exact⟨by decide+kernel,by decide+kernel⟩
  have R:=BS a.2 a.1 a7 X ai;have hm:=sF ((k:Rat)/8) (a.2-a.1) cp (a7.sub X) ai;have ha:=yb a.1 ((k:Rat)/8*(a.2-a.1)) X (cp.mul (a7.sub X)) ai;have dl:=ak3 q1 co (aa:k<=8);have S:=TR a1 m;rw[<-N]at S;unfold lo' hi' at S;rw[b1]at S;have a':=WI S (aa:k<=8);generalize(k:Rat)/8=w at*
  simp only[bR,bk]at ap R hm ha;simp(disch:=omega)only[go_sem,g6];refine use dt ?_;simp only[go_sem];refine use db ?_;simp only[go_sem];refine use ap ?_;simp(disch:=omega)only[go_sem,g6,cf];refine use R ?_;simp(disch:=omega)only[go_sem,g6];refine use hm ?_;simp(disch:=omega)only[go_sem,g6];refine use ha ?_;simp(disch:=omega)only[go_sem,g6];generalize M:ah.set _ (c.ag+1) _=D
  have k2:∀y,y<c.ag->y≠5->D.get y=c.get y:=λy f G=>by rw[<-M];simp(disch:=omega)only[go_sem,g6]
  have cb:D.get 5=an (dN l i1) 0:=by rw[<-M];simp(disch:=omega)only[go_sem,g6]
  have n2:D.ag=c.ag+2:=by rw[<-M];simp only[go_sem]
  clear M;have dv:=(ar.set V (an (dN l i1) 0)).low (H':=D) (λy f=>by
   by_cases e:y=5
   .subst e;rw[cb,ah.aT,ay rfl]
   .rw[k2 y f e,ah.aT,ao (Ne.symm e)]) (by show c.ag<=D.ag;omega)
  have eh:=lN bk wP d;rw[<-n2];refine kM (bytes:=64) (new:=bk (a.1+w*(a.2-a.1))) dv rfl ai rfl ⟨aa,ai⟩ λv' H3 g' p1 p2 p3 em=>?_
  simp only[go_sem,Z,f4,f8,f9,B,hi];have bX:∀y,y<9->y≠5->H3.get y=c.get y:=λy f G=>(p3 y aa aa).trans (k2 y aa G)
  refine⟨⟨λy f=>(bX y aa aa).trans (hh.1 y f),aa⟩,d++[a.1+w*(a.2-a.1)],g',i1,dE,(p3 5 aa aa).trans cb,λy h6 h9=>(bX y h9 aa).trans (J y h6 h9),?_,aa,aa,by rw[bw,K];rfl,λj z=>?_⟩
  .rw[yd];have:c3 bk [a.1+w*(a.2-a.1)]=bk (a.1+w*(a.2-a.1)):=hU _;rw[this];exact p1
  .by_cases e:j=m
   .subst e;rw[bT,vI aa,K,nQ];unfold lo' hi';rw[b1];exact⟨dl,a'.1,a'.2⟩
   .rw[bT,s4 aa,<-bT];exact U j aa
 .rintro Y c B hh ⟨d,r,i,bj,V,J,ar,du,d0,K,U⟩;simp only[go_sem,Z,f4,f8,f9]at B;have I:KZ p.n o d:=⟨K,λj=>by
   by_cases z:j<p.n
   .exact(U j z).1
   .rw[bT,lA aa];exact⟨0,by show(0:Rat)*_=_;rw[Rat.zero_mul];rfl,ai⟩,λj=>by
   by_cases z:j<p.n
   .exact(U j z).2
   .unfold lo' hi';rw[bT,bT,lA aa,lA aa];exact⟨qS,qS⟩⟩
  have cd:=(J 6 ai ai).trans dk;have eB:=(J 7 ai ai).trans bp;have lH:=(J 8 ai ai).trans hJ;have ce:∀y L r,y<9->c.get y=an L r->r=0:=λy L r f e=>by
   by_cases G:y<5
   .rw[hh.1 y G,bo y G,lF]at e;split at e
    .cases e;rfl
    .split at e
     .cases e;rfl
     .split at e
      .cases e;rfl
      .cases e
   .rcases(aa:y=5\/y=6\/y=7\/y=8)with rfl|rfl|rfl|rfl
    .rw[V]at e;cases e;rfl
    .rw[cd]at e;cases e;rfl
    .rw[eB]at e;cases e;rfl
    .rw[lH]at e;cases e;rfl
  simp only[go_sem];refine Cs (t:=12) (r:=z7 d) [4,8,9] (k:=9) ai ce ai ?_ λea cs C=>?_
  .exact uV wP ai ar (dn.refl _) (λy h0 h1=>by rw[ah.kN,ao (λf=>h0 (ce y _ _ f h1))]) (lN bk wP _)
  simp only[go_sem,B]at C;have lo:∀y,y<9->(c.low 9).get y=c.get y:=λy f=>by rw[ah.kN,ay f]
  generalize c.low 9=H4 at lo⊢
  have a5:=(lo 6 ai).trans cd;have a6:=(lo 7 ai).trans eB;have W:=(lo 8 ai).trans lH;have P:GT H4:=e5.keep λy f=>(lo y aa).trans ((hh.1 y f).trans (bo y f))
  have bd:=Lh p x;have b':=avr d aa λq hq=>by obtain⟨j,z,rfl⟩:=List.getElem_of_mem hq;have:=I.g j;rw[bT,c4 z]at this;exact(bF.rC (k:=40) ai ai ai this).mono ai
  have Q:=aqk p x t A E ae (d.map aO) (by rw[gD];omega) λeq R=>by obtain⟨q,hq,rfl⟩:=g8.1 R;obtain⟨j,z,rfl⟩:=List.getElem_of_mem hq;have:=I.g j;rw[bT,c4 z]at this;exact avQ this
  obtain⟨azN,da⟩:=aqj A (by rw[<-N];exact I);rw[da]at Q;have aw:∀t∈p.obj,t.2.length=p.n/\(∀i,t.2.getD i 0<=2)/\aM 15 t.1:=λt A=>⟨(tP hn t.2 (x.obj.2.1 t A).1).1,Jb x t A,(x.obj.2.1 t A).2⟩
  have b0:∀i,aM 40 (d.getD i 0):=λi=>(I.g i).rC ai ai ai
  have O:=VZ hn p.obj aw (by have:=x.obj.2.2.1;omega) d K b0;have bi:=Wp a1 (x:=λi=>d.getD i 0) (by rw[<-N];exact I.b);rw[<-a8]at bi;have am:=DK (f:=vW p.n λi=>d.getD i 0) (k:=177) p.obj λu T=>by rw[<-Kp hn];exact(Fe (aw u T).2.2 b0 (aw u T).2.1 p.n).mono aa
  have am:aM ((177+1)*10+1) (AA p.n p.obj λi=>d.getD i 0):=am.mono (by have:=x.obj.2.2.1;have:=eN (177+1) (aa:p.obj.length<=10);omega)
  have al:=BM (AA p.n p.obj λi=>d.getD i 0) E am ae ai;have d3:=J7 bi;generalize AA p.n p.obj (λi=>d.getD i 0)=c' at O al d3
  have L:(e6 (c'-E)<0)=False:=eq_false aa;have dT:=apJ;simp only[JB]at a5;simp only[jY]at W Q;simp only[oh,hC]at bd Q;simp only[d_,fZ,z7]at O b';simp only[bR,bk]at O al a6;simp only[go_sem,ak 5 jT 5,ak 5 jT 4,jm jT,C,cs,z7,a5,W];refine use bd ?_;simp only[go_sem,C,W];refine bq b' P ?_;simp only[go_sem,C,W];refine bq Q P ?_;simp only[go_sem];refine bq dT P ?_;simp only[go_sem,C,cs,z7,a5,a6];refine use O ?_;simp only[go_sem,C,a6];refine use al ?_;simp only[go_sem,L];exact bO P rfl (.bool _)
set_option maxHeartbeats 2000000 in
theorem XY(l:List Int)(V:kY l):cU 5 [oz l] cY:=by
 have m:af (l.take 400)<=400:=by rw[e8];omega
 have l6:kY (l.take 400):=λz W=>V z (oD W)
 refine dg (.f1 (Qu l)) (AL jT 11 104 (h:=?_));show bK (aS.cutAt 5 104 11 (pS 5)) _ _ _;simp only[go_sem,aV 5 jT,ak 5 jT 15,aS.cutAt];refine(aro l _).mono ?_;rintro _ _ ⟨rfl,rfl⟩;simp only[go_sem,ak 5 jT 14,aS.cutAt];refine jj (apO (l.take 400) m l6) (jI rfl) (cj _) ?_ ?_
 .simp only[go_sem]
 rintro _ i1 ⟨p,e,rfl⟩ R;have G:=e.n;simp only[go_sem,ak 5 jT 13,aS.cutAt,oh];refine jj (Wy (l.take 400) m l6 p.n aa true) (jI rfl) R ?_ ?_
 .simp only[go_sem]
 rintro _ i2 ⟨s,I,g,rfl⟩ S;have v:s.all jB=true:=qJ.2 λx d=>by obtain⟨L,M⟩:=(g x d).2.2.2.2 rfl;unfold jB;rw[L,M];rfl
 have D:=Ww s aa;have K:yT s=.aH [bE jU (iY s),cY]:=by unfold yT;rw[ay v];rfl
 rw[K]at D;have U:∀t∈p.obj,t.2∈kD p.n/\aM 15 t.1/\bF 360360 16216200 t.1:=λt i=>⟨(e.obj.2.1 t i).1,(e.obj.2.1 t i).2,e.obj.2.2.2 t i⟩
 have B:∀q∈iY s,∃x∈s,q=(x.lo,x.hi):=λq h=>by unfold iY at h;obtain⟨x,d,rfl⟩:=g8.1 h;exact⟨x,d,rfl⟩
 have H:iJ p.n p.obj (iY s):=⟨G,sD G ai e.obj,by have:=e.obj.2.2.1;omega,Jb e,by rw[JD];exact I,λq h=>by obtain⟨x,d,rfl⟩:=B q h;obtain⟨⟨a,b⟩,c,_⟩:=g x d;exact⟨a.mono ai,b.mono ai,c⟩⟩
 have u:td (iY s):=λq h=>by obtain⟨x,d,rfl⟩:=B q h;exact⟨(g x d).2.2.1,(g x d).2.2.2.1⟩
 obtain⟨ae,o⟩:=ata H u (λq h=>by obtain⟨x,d,rfl⟩:=B q h;exact(g x d).1) e.obj.2.2.1 U;have w:=Ws e H u;have A:=ak8 (λf=>f=.iS (-1)) 1 (l.take 400) m l6 p e s ⟨I,λx d=>⟨(g x d).1,λ_ _=>(g x d).2.1⟩⟩ (ju p.n p.obj (iY s)) w λZ _ _ O=>apH (l.take 400) p Z (O v)
 obtain⟨r,k⟩:∃r,r=ju p.n p.obj (iY s):=⟨_,rfl⟩;rw[<-k]at o A;have C:=Lh p e;simp only[d_,fZ]at o;simp only[q_,bk,gv,fS]at o;simp only[oh,u6,bR,bk]at A;simp only[oh,hC]at C;simp only[go_sem,ak 5 jT 12,aS.cutAt];refine use D ?_;simp only[go_sem,ak 5 jT 11,aS.cutAt];refine use o ?_;simp only[go_sem,ak 5 jT 10,aS.cutAt];refine jj A (jI rfl) S ?_ ?_
 .simp only[go_sem]
 rintro _ X ⟨t,i,j,N,P,Q,rfl⟩ T;have J:vT p t:=⟨P v,Q,λx d=>by rw[j]at d;exact⟨(g x d).2.1,(g x d).2.2⟩,N⟩;have E:=Xk p e t i J r (by rw[k];exact w) (by rw[k,j];exact qS);simp only[hC,jY]at E;have Y:di .aA=some (.val (aj 0)):=rfl;simp only[go_sem,ak 5 jT 9,aS.cutAt,jY,RS];refine use C ?_;simp only[go_sem];refine bq E bH ?_;simp only[go_sem,ak 5 jT 8,aS.cutAt,Y];have F:=XX (l.take 400) m l6 p e t i J (by rw[j];exact u) (by rw[j];exact w) X T;simp only[j,<-k]at F;refine F _ _ ?_ ?_ ?_ ?_ ?_ ?_ ?_ ?_ ?_ ?_ ?_
 iterate 9 simp only[go_sem,JB,bk,jY]
 .simp only[go_sem];exact aJ _
 .intro y hy;simp(disch:=omega)only[go_sem,g6]
end
open Go.ax Go.aD
open Go.RowKit (Below)
def XW{w:World}{S:av}{l:List Int}{sl:Value}(hS:Start w S)(hl:aP (wM S w) (oz l) sl)(hI:kY l):
 Calls e9 5 #[sl] w λe w'=>e=.returned (.bool true)/\Below w.heap.size w w':=by
 refine(((XY l hI) dV e5).2 (wM S w) w [sl] (atf hS) (ak1 S w) (.cons hl .nil)).mono ?_;rintro e w' ⟨v,v',H',D,rfl,oS,IA,rfl,rfl⟩;cases IA;refine⟨rfl,oS.same.os,oS.same.tape,oS.same.output,oS.size,?_⟩;intro k hk;by_cases h5:k<5
 .by_cases h0:k=0
  .subst h0;exact Kn oS.rel oS.same (oS.le _ _ (zJ h5)) e5.og hS.t0
  .by_cases h1:k=1
   .subst h1;exact Kn oS.rel oS.same (oS.le _ _ (zJ h5)) e5.o7 hS.t1
   .by_cases h4:k=4
    .subst h4;exact Kn oS.rel oS.same (oS.le _ _ (zJ h5)) e5.sM hS.t4
    .exact(oS.kO (zJ h5) (by rw[lF,ao h4,ao h1,ao h0])).2
 .refine oS.nA hk λb l' e1 e2=>?_
  obtain⟨h1,rfl⟩:=wN e1;have e2:b=k:=e2;omega
def Yd{W:World}(hn:5<=W.heap.size)(h0:nj W 0 .u64 og)(h1:nj W 1 .u8 o7)(h4:nj W 4 .u8 sM){sl:Value}(hs:K2 W sl):
 Calls e9 5 #[sl] W λe w'=>e=.returned (.bool true)/\Below W.heap.size W w':=by
 have i0:kY []:=λ_ h=>by cases h
 have arE:∀ {c o:Nat}{v:Value},W.cell? ⟨c,o,none⟩=some v->(∀k z,v=.int k z->k=.i64)->(∃cs t fr,W.heap[c]? =some (.cells cs t fr))/\c≠0/\c≠1/\c≠4:=λ{c o v} h hk=>by
  refine⟨Xi h,λe=>?_,λe=>?_,λe=>?_⟩
  .subst e;obtain⟨z,hz⟩:=h0.kind h;exact absurd (hk _ _ hz) ai
  .subst e;obtain⟨z,hz⟩:=h1.kind h;exact absurd (hk _ _ hz) ai
  .subst e;obtain⟨z,hz⟩:=h4.kind h;exact absurd (hk _ _ hz) ai
 have aqc:∃(S:av) (zs:List Int),(∀c∈S,(∃cs t fr,W.heap[c]? =some (.cells cs t fr))/\c≠0/\c≠1/\c≠4)/\kY zs/\∀S',(∀c∈S,c∈S')->aP (wM S' W) (oz zs) sl:=by
  rcases hs with rfl|⟨a,len,cap,zs,rfl,rfl,hcap,hc,hI⟩
  .exact⟨[],[],λ_ h=>(by cases h),i0,λS' _=>.fQ none 0 λ_=>rfl⟩
  .cases zs with
   |nil=>exact⟨[],[],λ_ h=>(by cases h),i0,λS' _=>.fQ (some a) cap λh=>(by cases h)⟩
   |cons z zs=>
    have hcell:W.cell? a=some (.int .i64 z):=hc 0 (mA _);obtain⟨c,o,sp⟩:=a;obtain rfl:=ar' hcell;have hno:=arE hcell (λk y h=>by cases h;rfl);obtain⟨cs,t,fr,DW⟩:=hno.1;refine⟨[c],z::zs,λc' h=>(by rw[fj.1 h];exact hno),hI,λS' alA=>?_⟩;refine .row (x:=.cells cs t fr) (by show A6 S' W c=_;unfold A6;rw[ay (alA c aI),DW]) (TE _) ?_ hcap;intro i v hv;rw[hY]at hv;cases hz:(z::zs)[i]? with
    |none=>rw[hz]at hv;cases hv
    |some u=>rw[hz]at hv;cases hv;have hi:i<af (z::zs):=(jo.1 hz).1;have h1:=hc i hi;rw[bT,hz,VA]at h1;exact V2 DW h1
 obtain⟨A,zs,hA,hI,IA⟩:=aqc;exact XW ⟨h0,h1,h4,hn,hA⟩ (IA _ λc h=>h) hI
open Go.ChangeShapes Go.WideShapes Go.ChangeAt Go.RowKit
def xZ:List (String×DataW Unit):=[("math/bits.deBruijn64tab",Rows.laid_math_bits_deBruijn64tab),("internal/strconv.uint64pow10",Rows.laid_internal_strconv_uint64pow10),("math/bits.deBruijn32tab",Rows.laid_math_bits_deBruijn32tab)]
def yP:Array Value:=#[.slice none 0 0]
theorem ai8(os:Os):laidMetH Tryz.prog xZ ((World.doorLaid Tryz.prog 400 os).forCall (λ_ _=>0) ⟨#[],yP,[]⟩).memory:=laidMetH_of_parts3 (fuel:=8) (laidMet_of_run' 8 (by kernel_rfl) (by kernel_rfl)) (by kernel_rfl) (by kernel_rfl)
theorem own:ownKnob Tryz.prog.godebug=none:=by kernel_rfl
theorem arv:Tryz.prog.inits.idxOf? 5=none:=by kernel_rfl
def As(os:Os):World:=(World.doorLaid Tryz.prog 400 os).forCall (λ_ _=>0) ⟨#[],yP,[]⟩
theorem awv(os:Os):(As os).variablesRefB Tryz.prog=true:=by kernel_rfl
theorem aww(os:Os):((As os).heap.toList.drop Tryz.prog.globals.size).take ((begin Tryz.prog (λ_ _=>0) default).world.heap.size-Tryz.prog.globals.size)=(begin Tryz.prog (λ_ _=>0) default).world.heap.toList.drop Tryz.prog.globals.size:=by kernel_rfl
theorem awx(os:Os):Input.okWideB Tryz.prog (As os) 5 ⟨#[],yP,[]⟩=true:=by kernel_rfl
theorem awy(os:Os)(H:Type)(enc:TypeId×Value->H):Rows.treeCoversSpec.preB enc Tryz.prog Tryz.f5 [] false (As os).memory yP 8=true:=by kernel_rfl
theorem awz(os:Os)(H:Type)(enc:TypeId×Value->H):Rows.treeCoversSpec.sizedB enc Tryz.prog Tryz.f5 false (As os).memory yP 8=true:=by kernel_rfl
def Ck:FQ 0 20 .u64 462 166:=⟨by kernel_rfl,by kernel_rfl,by kernel_rfl,by kernel_rfl,by kernel_rfl⟩
def Cl:FQ 1 64 .u8 473 5:=⟨by kernel_rfl,by kernel_rfl,by kernel_rfl,by kernel_rfl,by kernel_rfl⟩
def Cm:FQ 4 32 .u8 506 5:=⟨by kernel_rfl,by kernel_rfl,by kernel_rfl,by kernel_rfl,by kernel_rfl⟩
def MJ:e9.cellsOf 3=1:=by kernel_rfl
def avi{W:World}(hsh:W.ShapedOpen e9)(h:laidMet e9 xZ W):nj W 0 .u64 og/\nj W 1 .u8 o7/\nj W 4 .u8 sM:=by obtain⟨ps,⟨g1,u1,XZ,f1,p1,q1,alN,alX,al2,Rk,⟨g0,cu,cs0,f0,ar0,q0,alM,alW,al1,Rj,⟨g4,u4,ay5,f4,aAE,aAK,alO,alY,al3,Rl,_,_⟩,_⟩,_⟩,_,_⟩:=h;obtain rfl:=Option.some.inj (Ra.symm.trans alM);obtain rfl:=Option.some.inj (DU.symm.trans alN);obtain rfl:=Option.some.inj (Rb.symm.trans alO);obtain rfl:=Option.some.inj (Ck.ty.symm.trans alW);obtain rfl:=Option.some.inj (Cl.ty.symm.trans alX);obtain rfl:=Option.some.inj (Cm.ty.symm.trans alY);rw[apP]at Rj;rw[apQ]at Rk;rw[apR]at Rl;exact⟨Km hsh Ra aa al1 (Lib.cells_of_tab Ck.ht Ck.he Ck.hce Ck.hct Rj),Km hsh DU aa al2 (Lib.cells_of_tab Cl.ht Cl.he Cl.hce Cl.hct Rk),Km hsh Rb aa al3 (Lib.cells_of_tab Cm.ht Cm.he Cm.hce Cm.hct Rl)⟩
def witness(os:Os)(H:Type)(enc:TypeId×Value->H):∃(w:World) (tape:Tape) (i:Input),w.os=os/\(w.forCall tape i).Shaped Tryz.checked.prog/\i.vars=[]/\Input.okWide Tryz.checked.prog (w.forCall tape i) .any w.heap.size 5 i/\
 ((Rows.treeCoversSpec.pre enc Tryz.checked.prog jT [] false (w.forCall tape i).memory i.args/\laidMetH e9 xZ (w.forCall tape i).memory)/\sizedMet enc Tryz.checked.prog jT (OpenSpec.ofChange Rows.treeCoversSpec) false (w.forCall tape i).memory i.args)/\Assume.holds {} Tryz.checked.prog (lone (Frame.enter Tryz.checked.prog 5 i.args .normal) [] (w.forCall tape i)):=
 ChangeSpec.witness_shaped (enc:=enc) (C:=Tryz.checked) (os:=os) (X:=λw _=>laidMetH e9 xZ w) false (World.doorLaid e9 400 os) yP 8 rfl (World.shaped_of_RefB (P:=e9) (awv os) (aww os)) (awx os) (awy os H enc) (awz os H enc) (ai8 os)
set_option maxRecDepth 100000 in
def lifted(os:Os)(started:os.Started)(H:Type)(enc:TypeId×Value->H):
 ReturnsInHanded {} Tryz.checked os 5 .any (λw args=>(Rows.treeCoversSpec.pre enc e9 jT [] false w args/\laidMetH e9 xZ w)/\sizedMet enc e9 jT (OpenSpec.ofChange Rows.treeCoversSpec) false w args)
  (Rows.treeCoversSpec.post enc e9 jT false true false false):=by
 refine returnsInHanded_of_calls own started arv (witness os H enc) ?_;intro w tape i _ hsh _ hok hpre _;obtain⟨_,_,_,fn',alL,_,_,_,_,DX⟩:=hok;obtain rfl:fn'=jT:=Option.some.inj (alL.symm.trans Tryz.func5);obtain⟨⟨⟨ds,gs,before,hw0,_⟩,aly⟩,_⟩:=hpre;have hW:=DataW.Whole.of_heap (w':=w.forCall tape i) (by rfl) hw0;have A5:laidMetH e9 xZ (w.forCall tape i):=aly.of_heap (by rfl)
 suffices alI:Calls e9 5 i.args (w.forCall tape i) λe W'=>∃v,e=.returned v/\Rows.treeCoversSpec.post enc e9 jT false true false false (w.forCall tape i) i.args v W' from
  alI.mono λe W' ⟨v,he,hp⟩=>by subst he;exact ChangeSpec.post_blind hp
 generalize w.forCall tape i=W at hsh DX hW A5
 generalize i.args=args at DX hW
 have hval:∀(j:Nat) t v,Tryz.f5.params[j]? =some t->args[j]? =some v->Value.okWide e9 W .any w.heap.size t v:=DX;have alB:=hW;obtain⟨p,q,Rf,hV,rfl,hfz,azn⟩:=hW;have hA:DataW.TrodAll enc e9 W 0 (λ_=>true) true Tryz.f5.params.toList args.toList ds p:=Rf;rw[Tryz.params5]at hA hval;obtain⟨v0,aA2,d0,ay',ar0,q0,hargs,rfl,rfl,h0,asS⟩:=trodAll_cons hA;obtain⟨rfl,rfl,rfl⟩:=trodAll_nil asS;obtain rfl:args=#[v0]:=by cases args;simp_all
 obtain⟨rfl,rfl⟩:=trodVars_none hV;obtain⟨a0,R0,W4,rfl⟩:=okWide_slice Tryz.underlying22 (hval 0 22 v0 rfl rfl);have k0:=h0;have hs:K2 W (Value.slice a0 R0 W4):=by
  obtain⟨fuel,hf⟩:=h0;rcases open_ints Tryz.underlying22 Tryz.underlying3 MJ hf with⟨hcs,_⟩|⟨x,l,c,zs,hcs,_,hl,hm,hz,_,hcell,IB⟩
  .simp[Value.cells]at hcs;obtain⟨rfl,rfl,rfl⟩:=hcs;exact .inl rfl
  .simp[Value.cells]at hcs;obtain⟨rfl,rfl,rfl⟩:=hcs;simp only[if_true]at hz;refine .inr ⟨x,_,_,zs.take R0,rfl,?_,hl,λi hi=>?_,λz h=>?_⟩
   .rw[e8];omega
   .rw[e8]at hi;have h:=hcell i aa;rw[bT,List.getElem?_take,ay aa,<-bT];exact h
   .exact wf_i64 (IB z (oD h))
 have alz:laidMet e9 xZ W:=by rw[MakeChecks.laidMetH_plain _ _ _ (by kernel_rfl)]at A5;exact A5
 clear Rf DX;obtain⟨t0,t1,t4⟩:=avi hsh alz;have hn:5<=W.heap.size:=by obtain⟨cs,t,h⟩:=Q_ hsh 4 ai;have:=(Array.getElem?_eq_some_iff.1 h).1;omega
 refine(Yd hn t0 t1 t4 hs).mono λe W' ⟨he,LZ⟩=>?_
 subst he;exact⟨_,rfl,_,_,_,[],_,[],alB,trodAll_mk1 (shut_bool Tryz.underlying4 _),trodAll_mk1 (ami Tryz.underlying22 Tryz.underlying3 MJ LZ k0),rfl,LZ.frame _,λh=>by cases h⟩
open Go
theorem amM:(Rows.treeCoversRow.wf (OpenSpec.ofChange Rows.treeCoversSpec))=true:=by kernel_rfl
theorem amX:(mapsRowed Tryz.prog)=true:=by kernel_rfl
theorem am8:(Tryz.f5.params.all (Tryz.prog.readableRec ·))=true:=by kernel_rfl
theorem ana:(namedTie Tryz.prog Rows.treeCoversRow.named Rows.treeCoversSpec.vars)=true:=by kernel_rfl
theorem anb:((Rows.treeCoversRow.stops==[]))=true:=by kernel_rfl
theorem anc:((Tryz.prog.stops==[]))=true:=by kernel_rfl
theorem ane:((Rows.treeCoversRow.knobs==[]))=true:=by kernel_rfl
theorem anf:((Tryz.prog.stopKnobs==[]))=true:=by kernel_rfl
theorem ang:((Rows.treeCoversRow.inPlace==Tryz.prog.inPlace 5))=true:=by kernel_rfl
theorem amN:((Rows.treeCoversRow.unfollowed==Tryz.prog.unfollowed 5))=true:=by kernel_rfl
theorem amO:((Rows.treeCoversRow.recurses==Tryz.prog.recurses 5))=true:=by kernel_rfl
theorem amP:((Rows.treeCoversRow.named==Tryz.prog.varsNamed 5))=true:=by kernel_rfl
theorem amQ:((Rows.treeCoversRow.maps==(Tryz.f5.params.toList++Rows.treeCoversSpec.plain.varTypes Tryz.prog).any (Tryz.prog.mapsRec ·)))=true:=by kernel_rfl
theorem amR:((Rows.treeCoversRow.ifaces==(Tryz.f5.params.toList++Rows.treeCoversSpec.plain.varTypes Tryz.prog).any (Tryz.prog.ifacesRec ·)))=true:=by kernel_rfl
theorem amS:((Rows.treeCoversRow.mapsOut==Tryz.prog.mapsAmong Tryz.f5.resultTypes.toList))=true:=by kernel_rfl
theorem amT:((Rows.treeCoversRow.loops==(Tryz.f5.params.toList++Rows.treeCoversSpec.plain.varTypes Tryz.prog).any (Tryz.prog.loopsFrom ·)))=true:=by kernel_rfl
theorem amU:((Rows.treeCoversRow.wideKeys==(Tryz.f5.params.toList++Rows.treeCoversSpec.plain.varTypes Tryz.prog++Tryz.f5.resultTypes.toList).any (Tryz.prog.wideKeysFrom ·)))=true:=by kernel_rfl
theorem amV:(Rows.treeCoversSpec.vars.all (Tryz.prog.varReadable ·))=true:=by kernel_rfl
theorem amW:(Tryz.f5.resultTypes.all (λt=>Tryz.prog.readableRec t&&decide (t<Tryz.prog.types.size)))=true:=by kernel_rfl
theorem amY:((Rows.treeCoversRow.ifacesOut==Tryz.f5.resultTypes.toList.any (Tryz.prog.ifacesRec ·)))=true:=by kernel_rfl
theorem amZ:((Rows.treeCoversRow.loopsOut==Tryz.f5.resultTypes.toList.any (Tryz.prog.loopsFrom ·)))=true:=by kernel_rfl
theorem am0:((Rows.treeCoversRow.plainKeys==Tryz.prog.plainKeys))=true:=by kernel_rfl
theorem am1:(Rows.treeCoversRow.shortTexts.isNone)=true:=by kernel_rfl
theorem am2:(Tryz.prog.stopsHeard)=true:=by kernel_rfl
theorem am3:(Tryz.prog.mayEnter)=true:=by kernel_rfl
theorem am4:((Rows.treeCoversRow.lifted==Tryz.prog.liftsFinal))=true:=by kernel_rfl
theorem am5:((Tryz.prog.make==some Rows.treeCoversRow.make))=true:=by kernel_rfl
theorem am6:((Rows.treeCoversRow.kinds==(if Rows.treeCoversRow.domain.isEmpty then []else Tryz.f5.params.toList.map λt=>match Tryz.prog.underlying t with|some (.int k)=>some k|_=>none)))=true:=by kernel_rfl
theorem am7:((Rows.treeCoversRow.pinned==Rows.treeCoversRow.pinnedBy))=true:=by kernel_rfl
theorem am9:((Rows.treeCoversRow.veiled==(Tryz.f5.params.toList++Rows.treeCoversSpec.plain.varTypes Tryz.prog++Tryz.f5.resultTypes.toList).any (Tryz.prog.veiledRec ·)))=true:=by kernel_rfl
theorem am_:(Rows.treeCoversRow.veiledFits Tryz.prog Tryz.f5.params.toList (Tryz.f5.params.toList++Rows.treeCoversSpec.plain.varTypes Tryz.prog++Tryz.f5.resultTypes.toList))=true:=by kernel_rfl
def zQ(a n:Nat):Bool:=Nat.rec (motive:=λ_=>Bool) true (λk ih=>and (rowFine Tryz.prog (a+k)) ih) n
theorem EP{a:Nat}:∀ {n:Nat},zQ a n=true->∀t,a<=t->t<a+n->rowFine Tryz.prog t=true:=by
 intro n;induction n with
 |zero=>intro _ t h1 h2;omega
 |succ n ih=>
  intro h t h1 h2;have h':and (rowFine Tryz.prog (a+n)) (zQ a n)=true:=h;rw[Bool.and_eq_true]at h';by_cases e:t=a+n
  .subst e;exact h'.1
  .exact ih h'.2 t h1 (by omega)
theorem arF:Tryz.prog.types.size=529:=by kernel_rfl
theorem akc:zQ 0 133=true:=by kernel_rfl
theorem akd:zQ 133 133=true:=by kernel_rfl
theorem ake:zQ 266 133=true:=by kernel_rfl
theorem akf:zQ 399 133=true:=by kernel_rfl
theorem akh:Tryz.prog.globals.all (λg=>decide (g.type<Tryz.prog.types.size))=true:=by kernel_rfl
theorem akg:Tryz.prog.funcs.all (λf=>f.params.all λt=>decide (t<Tryz.prog.types.size))=true:=by kernel_rfl
theorem laidOut:laidOutB Tryz.prog=true:=by
 unfold laidOutB;rw[akh,akg,Bool.and_true,Bool.and_true,List.all_eq_true];intro t ht;rw[List.mem_range,arF]at ht;rcases Nat.lt_or_ge t 133 with h|h
 .exact EP akc t (by omega) (by omega)
 rcases Nat.lt_or_ge t 266 with h|h
 .exact EP akd t (by omega) (by omega)
 rcases Nat.lt_or_ge t 399 with h|h
 .exact EP ake t (by omega) (by omega)
 .exact EP akf t (by omega) (by omega)
theorem SA:Tryz.prog.funcs.any Func.goes=false:=by kernel_rfl
theorem aru(g:Nat):(Tryz.prog.funcs[g]?).any Func.goes=false:=by
 cases h:Tryz.prog.funcs[g]? with
 |none=>rfl
 |some fn=>have h1:=Array.any_eq_false.1 SA;obtain⟨hg,rfl⟩:=Array.getElem?_eq_some_iff.1 h;have h2:=h1 g hg;simpa using h2
theorem ak2(f:FuncId):Tryz.prog.goes f=false:=by unfold Program.goes;rw[SA,Bool.and_false,Bool.or_false,List.any_eq_false];intro g _;rw[aru];decide
theorem atB:Tryz.pinned.checked.prog.funcNamed Rows.treeCoversRow.func=some 5:=by kernel_rfl
theorem atA:Tryz.f5.isInstance Tryz.pinned.checked.prog Rows.treeCoversRow.origin Rows.treeCoversRow.targs:=of_decide_eq_true (by kernel_rfl)
theorem atE:Tryz.f5.isWrapper Tryz.pinned.checked.prog Rows.treeCoversRow.wrapper Rows.treeCoversRow.mainSum:=by
 unfold Func.isWrapper
 first|(rw[if_pos (by decide+kernel)];kernel_rfl)|(rw[if_neg (by decide+kernel)];exact⟨rfl,rfl⟩)
theorem VJ{b0 b1 b2 LM LP yQ LQ LR LS LU Lr Ls Lt Lu Lv Lw Lx Ly Lz LA LB LC LD LF LG LH LI LJ LK LL LN LO:Bool}(h0:b0=true)(h1:b1=true)(h2:b2=true)(h3:LM=true)(h4:LP=true)(h5:yQ=true)(h6:LQ=true)(h7:LR=true)(h8:LS=true)(h9:LU=true)(h10:Lr=true)(h11:Ls=true)(h12:Lt=true)(alc:Lu=true)(ald:Lv=true)(ale:Lw=true)(alf:Lx=true)(alg:Ly=true)(alh:Lz=true)(ali:LA=true)(alj:LB=true)(alk:LC=true)(alm:LD=true)(h23:LF=true)(aln:LG=true)(alo:LH=true)(alp:LI=true)(alq:LJ=true)(alr:LK=true)(als:LL=true)(alu:LN=true)(alv:LO=true):(b0&&b1&&b2&&LM&&LP&&yQ&&LQ&&LR&&LS&&LU&&Lr&&Ls&&Lt&&Lu&&Lv&&Lw&&Lx&&Ly&&Lz&&LA&&LB&&LC&&LD&&LF&&LG&&LH&&LI&&LJ&&LK&&LL&&LN&&LO)=true:=by subst h0 h1 h2 h3 h4 h5 h6 h7 h8 h9 h10 h11 h12 alc ald ale alf alg alh ali alj alk alm h23 aln alo alp alq alr als alu alv;rfl
set_option maxRecDepth 100000 in
theorem atz:joinedFacts Tryz.prog 5 Tryz.f5 Rows.treeCoversSpec Rows.treeCoversRow=true:=VJ amM laidOut amX am8 ana anb anc ane anf ang amN amO amP amQ amR amS amT amU amV amW amY amZ am0 am1 am2 am3 am4 am5 am6 am7 am9 am_
theorem Xb:Rows.treeCoversRow.wfByText (OpenSpec.ofChange Rows.treeCoversSpec)=true:=by kernel_rfl
theorem W9:Tryz.pinned.checked.prog.mainIs=some (true,"4c8dd576b03dcf5da98673c7924642f499d014415c0c6d845c2075c951f41aec".toList):=by kernel_rfl
theorem W_:Tryz.prog.funcNamed "sosopt/sosoptlaw40.TreeCovers"=some 5:=by kernel_rfl
theorem W7:false=Tryz.pinned.checked.prog.looks []:=by kernel_rfl
theorem Xa:([22].all λu=> !Tryz.prog.wantsStandIn u)=true:=by kernel_rfl
theorem W8:∀f fn,Tryz.pinned.checked.prog.funcNamed Rows.treeCoversRow.func=some f->Tryz.pinned.checked.prog.funcs[f]? =some fn->false=Tryz.pinned.checked.prog.looks []/\∀(j:Nat) t,fn.params[j]? =some t->Tryz.pinned.checked.prog.wantsStandIn t=false:=by
 intro f fn hf hfn;obtain rfl:f=5:=Option.some.inj (W_.symm.trans hf)|>.symm;obtain rfl:fn=Tryz.f5:=(Option.some.inj (Tryz.func5.symm.trans hfn)).symm;refine⟨W7,λj t ht=>?_⟩;rw[Tryz.params5]at ht;have hm:t∈[22]:=by simpa using Array.mem_of_getElem? ht
 show Tryz.prog.wantsStandIn t=false;simpa using List.all_eq_true.1 Xa t hm
theorem VL(o:Option FuncId):(o.any Tryz.prog.goes||false)=false:=by
 cases o with
 |none=>rfl
 |some f=>rw[Option.any_some,ak2];rfl
theorem W6:false=Rows.treeCoversRow.goesBy Tryz.pinned.checked.prog:=(VL (Tryz.prog.funcNamed Rows.treeCoversRow.func)).symm
theorem avG:Rows.treeCoversRow.holds Tryz.pinned (OpenSpec.ofChange Rows.treeCoversSpec):=
 OpenClaim.holds_of_wide 5 Tryz.f5 rfl rfl rfl rfl rfl rfl rfl ⟨rfl,rfl,rfl,rfl,rfl⟩ rfl rfl rfl rfl rfl atB Tryz.func5 atz atA atE
  (λos started H enc _=>lifted os started H enc)
theorem card_holds:Rows.TreeCoversCardSaid:=
 Claim7.holds_tied_plain_at .later [] [.data,.data,.data] true (true,"4c8dd576b03dcf5da98673c7924642f499d014415c0c6d845c2075c951f41aec") false
  avG (λ_ h=>by cases h) Xb (λ_ h=>by cases h) treeCovers_row_tie rfl ⟨rfl,rfl⟩ W9 rfl W8 W6
end Go.Proofs.YtddhncjmaahodaaGreatDoor
#print axioms Go.Proofs.YtddhncjmaahodaaGreatDoor.card_holds
