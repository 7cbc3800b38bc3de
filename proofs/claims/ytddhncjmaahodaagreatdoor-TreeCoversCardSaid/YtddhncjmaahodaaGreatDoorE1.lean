/- Towards the law TreeCovers: lemmas on the evaluator of the model's code, plain laws of numbers, walks of the program's functions, the card. No conditions. -/
import Derived.Test.YtddhncjmaahodaaGreatDoorE0
import Derived.RangeFuncRecord
import Derived.Scope
import Derived.Attr
import Derived.Test.YtddhncjmaahodaaGreatDoorProg
import Derived.KernelRfl
set_option linter.all false
noncomputable section
open Array renaming replicate->w7
open Bool renaming and_eq_true->de,eq_false_iff->mo,or_eq_true->vE
open Classical renaming byContradiction->qI
open Go.IntKind renaming bits->rQ,signed->rR,wrap->uv
open Go.Proofs.Tryz renaming prog->e9
open Go.Result renaming andThen_ok->eO
open Go.Sem renaming run_bind->eE,run_pure->gl
open Int renaming natAbs_mul->nM,natAbs_natCast->eU,natAbs_neg->pY,natCast_mul->fF,toNat_natCast->cg
open List renaming append_assoc->gX,append_nil->hU,cons_append->gv,drop_eq_getElem_cons->mQ,drop_of_length_le->mR,eq_nil_of_length_eq_zero->pn,ext_getElem?->oC,getD_eq_getElem?_getD->bT,getElem?_append_left->s4,getElem?_append_right->vI,getElem?_drop->yD,getElem?_eq_getElem->c4,getElem?_eq_none->lA,getElem?_eq_some_iff->jo,getElem?_replicate->yE,getElem_mem->s5,length->af,length_append->bw,length_cons->dZ,length_drop->lB,length_singleton->iA,length_take->e8,length_take_of_le->jq,mem_append->ki,mem_cons->jr,mem_cons_of_mem->pq,mem_cons_self->uy,mem_filter->rU,mem_of_getElem?->fL,mem_of_mem_take->oD,mem_singleton->fj,merge->vK,nil_append->fS,pairwise_cons->uz,replicate->aZ,take_append_drop->p6,take_left->vL,take_of_length_le->dr,take_succ_eq_append_getElem->lT
open Nat renaming add_assoc->ng,add_comm->i_,add_mul->fT,add_sub_cancel->vN,add_zero->dG,beq->bt,beq_refl->uA,ble->b6,div_add_mod->kj,div_div_eq_div_mul->qO,div_eq_of_lt->mw,div_le_self->js,div_lt_iff_lt_mul->s8,div_mul_le_self->yH,div_one->pA,eq_zero_or_pos->uB,gcd->c9,gcd_comm->rX,gcd_dvd_right->xe,gcd_one_right->xg,le_add_right->qP,le_div_iff_mul_le->vO,le_mul_of_pos_left->yI,le_mul_of_pos_right->yJ,le_of_lt->ja,le_of_not_lt->k4,le_refl->aJ,le_succ->s9,le_trans->c5,lt_of_le_of_lt->fu,lt_of_lt_of_le->fy,lt_of_mul_lt_mul_right->vP,lt_of_not_le->uC,lt_or_ge->rY,lt_succ_of_lt->xh,lt_succ_self->nO,mod_eq_of_lt->jR,mod_lt->fD,mul->fz,mul_add->dL,mul_assoc->dx,mul_comm->dy,mul_le_mul->iP,mul_le_mul_left->eN,mul_le_mul_right->ei,mul_lt_mul_of_pos_right->qQ,mul_mod_mul_right->uD,mul_ne_zero->xj,mul_one->eD,mul_pos->s_,mul_right_comm->xk,mul_zero->gj,not_lt_zero->nP,one_mul->kn,pos_of_ne_zero->lC,pow_add->iB,pow_le_pow_right->iI,pow_pos->gE,pow_succ->dX,pow_zero->r0,reduceEqDiff->mz,strongRecOn->j3,sub->ko,sub_self->nQ,succ_pos->mA,zero_add->eW,zero_le->cj,zero_mul->j4
open Option renaming none->aN
open Rat renaming intCast_mul->xq,le_refl->qS,mul_one->uF
open UInt8 renaming ofNat->iD
namespace Go.ax
section
variable {P:Program}{N:fh}{T:c6}{G:Nat}{ops:Array Oper}{ro:cq}{nn:Nat}
variable {lz:aL}{H0:ah}{w0:World}{done r:List Info}{F:Fr}{H:ah}{listed:Array Bool}{a:Act}{w:World}{C:aL}
def Cd(l a:List Info)(r:List Info)(j:Nat):List dW:=match r with
 |[]=>[]
 |e::r=>dW.ex e.s::dJ (lmap (λi=>dW.re i.s) (l9 (λi=>and (!i.hM) (and (zo i.s.cop) (and (b6 (oQ a i.mask) j) (!(jK e.mask i.ix))))) l)) (B9 l a r (j+1))
def T8(l a r:List Info)(j:Nat):B9 l a r j=dJ (lmap (λi=>dW.ex i.s) (nX l a j)) (Cd l a r j):=by
 cases r with
 |nil=>rw[iW];show lmap _ _=_++[];simp
 |cons e r=>rfl
variable{s:cm}
theorem as4(f:Info->Step):∀ {l:List Info}{F:Fr}{H:ah},g_ P G (lmap (λi=>dW.re (f i)) l) F H s->s F H/\∀i∈l,yw (f i) F H:=by
 intro l;induction l with
 |nil=>exactλh=>⟨h,λi hi=>by cases hi⟩
 |cons i l b=>
  intro F H h;have a:yw (f i) F H/\g_ P G (lmap (λi=>dW.re (f i)) l) F H s:=h
  grind
def T7{k:cm}:∀ {l:List Info}{F:Fr}{H:ah},(∀i∈l,su i.s.cop=false)->g_ P G (lmap (λi=>dW.ex i.s) l) F H k->∃e f,vj sB (lmap (λi=>dW.ex i.s) l) F H=some (e,f)/\k e f:=by
 intro l;induction l with
 |nil=>exactλ_ h=>⟨_,_,rfl,h⟩
 |cons i l v=>
  intro F H o h;have p:kq P G i.s F H λb c=>g_ P G (lmap (λi=>dW.ex i.s) l) b c k:=h
  have t:∃b c,exec sB i.s F H=some (b,c)/\g_ P G (lmap (λi=>dW.ex i.s) l) b c k:=by
   rcases p with⟨m,a⟩|⟨m,a⟩
   .exact⟨_,_,by unfold exec;rw[m],a⟩
   .have hi:=o i aI;cases d:i.s.cop with
    |call n g=>rw[d]at hi;cases hi
    |od x=>rw[d]at hi;cases hi
    |hG n g=>rw[d]at hi;cases hi
    |bad=>rw[d]at a;exact a
    |pu n g=>rw[d]at a;exact a
    |rd n g=>rw[d]at a;exact a
  obtain⟨b,c,m,a⟩:=t;obtain⟨e,f,q,r⟩:=v (λj u=>o j (by simp[u])) a;exact⟨e,f,aB.2 ⟨(b,c),m,q⟩,r⟩
variable{M:Exit->Act->World->Prop}
theorem e_step(hT:dH P T)(b_:kH P N)(L:n5 ops.toList 0=true)(ae:vr ops.toList (ez N T ops.toList)=true)(aw:(done++r).Pairwise (λa b=>Pred ops.toList b.ix a.ix))
 (c1:∀W∈ops.toList,oZ G a.tmps.size W=true) (k:pX N T G ops lz H0 w0 done r F H listed a w C) {x:Info} (I:x∈ez N T ops.toList) (am:x.hM=true) (cs:¬jG listed x.ix) (bo:ops[x.ix]? =some x.o) (hi:x.ix<listed.size)
 (hr:∀e∈x.o.after.toList,lV e=true->jG listed e.on) {ap:cm} (c':g_ P G (Cd (ez N T ops.toList) (done++r) r done.length) F H ap) {K:Act->World->Prop}
 (hK:∀Y X D d J Q,r=x::d->pX N T G ops lz H0 w0 (done++[x]) d J Q (listed.setIfInBounds x.ix true) Y X D->g_ P G (Cd (ez N T ops.toList) ((done++[x])++d) d (done++[x]).length) J Q ap->
   Y.tmps.size=a.tmps.size->Y.defers=a.defers->K Y X):wpOpIn (fw ro) nn P ops M x.ix K a w:=by
 obtain⟨ho,hw⟩:=SK L ae c1 k I hr;have dv:ops.toList[x.ix]? =some x.o:=by simpa using bo
 have bv:x.s=stepOf N T ops.toList x.o/\x.mask=maskAt ops.toList x.ix:=by obtain⟨i,W,_,rfl⟩:=r8.1 I;exact⟨rfl,rfl⟩
 have a0:∀ {j:Nat},Pred ops.toList x.ix j->jG listed j:=λh=>Gx L k.closed (λo' ed=>by grind) h
 have bj:x∈done++r:=by rw[<-k.split];exact rU.2 ⟨I,am⟩
 have bs:x∈r:=by
  rcases ki.1 bj with h|h
  .exact absurd ((k.hG x bj).2 h) cs
  .exact h
 have db:∃d,r=x::d:=by
  cases r with
  |nil=>cases bs
  |cons e d=>
   rcases jr.1 bs with rfl|h
   .exact⟨d,rfl⟩
   .have hp:Pred ops.toList x.ix e.ix:=(uz.1 (List.pairwise_append.1 aw).2.1).1 x h;have ce:=(k.hG e aI).1 (a0 hp);have:=(List.pairwise_append.1 aw).2.2 e ce e aI;have:=pred_lt L this;omega
 obtain⟨d,rfl⟩:=db;have bi:kq P G x.s F H λp O=>g_ P G (dJ (lmap (λi=>dW.re i.s) (l9 (λi=>and (!i.hM) (and (zo i.s.cop) (and (b6 (oQ (done++x::d) i.mask) done.length) (!(jK x.mask i.ix))))) (ez N T ops.toList))) (B9 (ez N T ops.toList) (done++x::d) d (af done+1))) p O ap:=c'
 rw[bv.1]at bi;have ci:af (done++[x])=af done+1:=aI;have a1:(done++[x])++d=done++x::d:=aI;have U:∀y∈ez N T ops.toList,y.mask=maskAt ops.toList y.ix/\y.s=stepOf N T ops.toList y.o/\su (cop N T y.o.op)=y.hM:=by intro y c;obtain⟨i,W,_,rfl⟩:=r8.1 c;exact⟨rfl,rfl,rfl⟩
 have df:∀y∈ez N T ops.toList,(oQ (done++x::d) y.mask<=af done↔tf ops.toList y (x::d)):=λy c=>Kj L aw (U y c).1
 have el:∀y∈ez N T ops.toList,(oQ (done++x::d) y.mask<=af done+1↔tf ops.toList y d):=λy c=>by grind [Kj]
 have al:∀u,u∈nX (ez N T ops.toList) (done++x::d) (af done+1)↔u∈ez N T ops.toList/\u.hM=false/\tf ops.toList u d/\¬tf ops.toList u (x::d):=by
  intro u;unfold nX;rw[x2,rU];constructor
  .rintro⟨m,f⟩;rw[de,beq_eq]at f
   grind
  .rintro⟨m,f,R,q⟩;refine⟨m,?_⟩;rw[de,beq_eq]
   grind
 refine T9 bo hT b_ ho hw k.ext.rel k.DT bi ?_;intro v v' D X O E dt a3;generalize ab:put F x.o.dst v=p at a3
 replace ab:=ab.symm;rw[iW]at a3;obtain⟨bd,cb⟩:=as4 (λi=>i.s) (g_.app.1 a3);rw[T8,iW]at bd;obtain⟨J,Q,dd,da⟩:=T7 (λu z=>by
  obtain⟨m,f,_,_⟩:=(al u).1 z;rw[(U u m).2.1];show su (cop N T u.o.op)=false
  grind) (g_.app.1 bd)
 have S:∀y,Out N T ops (x::d) listed y->∀t,mN ops.toList y.o t=true->p.get V.undef t=F.get V.undef t:=by
  intro y c t n;rw[ab];cases hd:x.o.dst with
  |none=>rfl
  |some t0=>
   rw[qt,ao];intro e;subst e;rcases((sO ae I).2 t0 hd).2 y c.1 with h|h|h|h
   .have f:=c.2.1;rw[uL c.1 I h,am]at f;cases f
   .rw[n]at h;cases h
   .exact c.2.2.1 x aI h
   .exact c.2.2.2 (a0 h.2)
 have d':∀y,Out N T ops (x::d) listed y->mB N T ops.toList H0.ag y.o p O D:=by
  intro y c;refine(k.pM y c).keep (S y c) (λid d5 A Z ar=>⟨?_,?_,fy ar E.ag⟩) (λxs g u A Z ar d6=>?_)
  .rw[E.pK ar Z (by rw[A];simp)];exact A
  .cases h:D id with
   |none=>rfl
   |some l=>have:=(E.fresh Z h).1;omega
  .have bc:∀t,reads ops.toList y.o t=true->p.get V.undef t=F.get V.undef t:=λt n=>S y c t (by unfold mN;rw[n];simp)
   obtain⟨t,n,_⟩:=k.pM y c;have ea:p.get V.undef t=F.get V.undef t:=S y c t (by unfold mN;rw[ya.2 n];rfl);have hm:y∈l9 (λi=>and (!i.hM) (and (zo i.s.cop) (and (b6 (oQ (done++x::d) i.mask) done.length) (!(jK x.mask i.ix))))) (ez N T ops.toList):=by
    rw[x2,rU];refine⟨c.1,?_⟩;have c2:zo y.s.cop=true:=by rw[(U y c.1).2.1];show zo (cop N T y.o.op)=true;rw[A];rfl
    have cd:b6 (oQ (done++x::d) y.mask) (af done)=true:=(fV _ _).2 ((df y c.1).2 c.2.2.1);have cp:jK x.mask y.ix=false:=by apply mo.2;intro h;rw[bv.2]at h;exact c.2.2.2 (a0 h)
    rw[c.2.1,c2,cd,cp];rfl
   have ac:=cb y hm;rw[(U y c.1).2.1]at ac;have em:(stepOf N T ops.toList y.o).want p=some true:=(w4 bc).trans Z;rcases ac with h0|⟨_,ac⟩
   .grind
   .obtain⟨u1,a9,dq⟩:=ac xs _ A;have ds:=(dq t n).symm;rw[vc (JK A) bc]at a9;rw[a9,ds];have d7:aY.nw V.undef (path t) p=p.get V.undef t:=rfl
    grind
 have hB:H0.ag<=O.ag:=c5 k.ext.ag E.ag
 obtain⟨q1,es,et,dT,d0,d1,d2⟩:=T6 (N:=N) (T:=T) (ol:=ops.toList) (B:=H0.ag) (cf:=sB) (C:=D) (w:=X) (nX (ez N T ops.toList) (done++x::d) (af done+1)) p O J Q (λW=>∃y,Out N T ops (x::d) listed y/\W=y.o)
  (λu z=>by
    obtain⟨m,f,_,_⟩:=(al u).1 z;refine⟨(U u m).2.1,by grind,?_⟩;cases hd:u.o.dst with
    |none=>grind [sO]
    |some t=>grind [sO])
  (by
    rintro _ u ⟨y,c,rfl⟩ z t n;obtain⟨m,f,_,q⟩:=(al u).1 z;rcases((sO ae m).2 t n).2 y c.1 with h|h|h|h
    .rw[uL c.1 m h]at c;exact absurd c.2.2.1 q
    .exact h
    .exact absurd (λe B hp=>c.2.2.1 e B (JA L h hp)) q
    grind)
  (by
    unfold nX;rw[x2];refine(List.Pairwise.filter _ (Lf ops.toList)).imp_of_mem ?_;intro u1 u2 dk dp eb t n;have dl:=(rU.1 dk);have be:=(rU.1 dp);have d9:u2.hM=false:=by have:=be.2;rw[de]at this;simpa using this.1
    rcases((sO ae be.1).2 t n).2 u1 dl.1 with h|h|h|h
    .omega
    .exact h
    .have:=pred_lt L h;omega
    grind)
  E.rel hB b4
  (by rintro _ _ ⟨y1,b0,rfl⟩ ⟨a8,b1,rfl⟩ id n1 n2;exact k.HN _ _ ⟨y1,b0,rfl⟩ ⟨a8,b1,rfl⟩ id (n1.congr (S y1 b0)) (n2.congr (S a8 b1))) dd
 have eh:∀y,Out N T ops d (listed.setIfInBounds x.ix true) y->Out N T ops (x::d) listed y\/y∈nX (ez N T ops.toList) (done++x::d) (af done+1):=by
  intro y c;rw[yK hi]at c;obtain⟨⟨m,f,R,q⟩,_⟩:=c;by_cases h:tf ops.toList y (x::d)
  .exact .inl ⟨m,f,h,q⟩
  .grind
 have cf:∀y,Out N T ops (x::d) listed y->Out N T ops d (listed.setIfInBounds x.ix true) y:=by rintro y ⟨m,f,R,q⟩;refine(yK hi).2 ⟨⟨m,f,λe B=>R e (by simp[B]),q⟩,λe=>?_⟩;rw[uL m I e,am]at f;cases f
 have ch:∀u∈nX (ez N T ops.toList) (done++x::d) (af done+1),Out N T ops d (listed.setIfInBounds x.ix true) u:=by intro u z;obtain⟨m,f,R,q⟩:=(al u).1 z;refine(yK hi).2 ⟨⟨m,f,R,λhl=>q (k.ne u m f hl)⟩,λe=>?_⟩;rw[uL m I e,am]at f;cases f
 refine hK _ X D d J Q rfl ⟨by rw[a1];exact k.split,by simp[k.size],MT k dv hi hr,?_,?_,Qf (k.ext.trans E) q1 d0 d1,k.DT.mono E.le,?_,?_,?_⟩ (by rw[a1,ci];exact da) (BH _ _ _) (put_defers _ _ _)
 .intro e B;rw[a1]at B;rw[yG hi,ki,fj,k.hG e B]
  grind
 .intro y c dC hl;rw[yG hi]at hl;rcases hl with h|h
  .grind [uL]
  .exactλe B=>k.ne y c dC h e (by simp[B])
 .intro t n a';rw[BH]at n;have A:J.get V.undef t=p.get V.undef t:=dT t (λu z=>a' u (ch u z));rw[A,ab];have ba:x.o.dst≠some t->aP D (F.get V.undef t) (a.tmps.getD t undef):=λ_=>(k.tmps t n (λy c=>a' y (cf y c))).mono E.le
  cases hd:x.o.dst with
  |none=>exact ba (by rw[hd];simp)
  |some t0=>
   rw[qt];by_cases h:t0=t
   .subst h;rw[ay rfl];simpa [Act.put,n]using dt
   .rw[ao h];have:=ba b4;simpa [Act.put,Array.getElem?_setIfInBounds_ne h]using this
 .grind
 .rintro _ _ ⟨y1,m,rfl⟩ ⟨a8,f,rfl⟩ id n1 n2;refine d2 _ _ ?_ ?_ id n1 n2
  .grind
  grind
end
section
variable {P:Program}{N:fh}{T:c6}{G:Nat}{ops:Array Oper}{ro:cq}{nn:Nat}
variable {lz:aL}{H0:ah}{w0:World}{done r:List Info}{F:Fr}{H:ah}{listed:Array Bool}{a:Act}{w:World}{C:aL}
theorem VF(a:n5 ops.toList 0=true)(k:listed.size=ops.size)(h:Region.ready .any ops listed=[]):∀i,i<ops.size->jG listed i:=by
 intro i;induction i using j3 with
 |_ i f=>
  intro hi;refine qI λd=>?_
  have j:i∈Region.ready .any ops listed:=by
   refine mem_ready.2 ⟨?_,ops[i],by simp[hi],λe b g=>?_⟩
   .unfold jG at d
    grind
   .have c:=AW a (i:=i) (o:=ops[i]) (by simp[hi]) (e:=e) (by simpa using b) (by grind [L5]);exact f e.on c aa
  grind
def XL(f:n5 ops.toList 0=true)(k:(done++r).Pairwise (λa b=>Pred ops.toList b.ix a.ix))(c:pX N T G ops lz H0 w0 done r F H listed a w C)(h:Region.ready .any ops listed=[]):r=[]/\jt C F a.tmps:=by
 have g:=VF f c.size h;have j:∀x∈ez N T ops.toList,x.ix<ops.size:=by intro x d;obtain⟨i,o,n,rfl⟩:=r8.1 d;have:=(jo.1 n).1;show i<ops.size;simpa using this
 refine⟨?_,λt p=>c.tmps t p (λx d=>absurd (g _ (j x d.1)) d.2.2.2)⟩;cases r with
 |nil=>rfl
 |cons e r=>
  have m:e∈ez N T ops.toList:=by have:e∈done++e::r:=aI;rw[<-c.split]at this;exact(rU.1 this).1
  have l:=(c.hG e aI).1 (g _ (j e m));have:=(List.pairwise_append.1 k).2.2 e l e aI;have:=pred_lt f this;omega
variable{d:Nat}
theorem MU(hi:d<listed.size)(h:¬jG listed d){k:Nat}(b:listed.toList.count false<=k+1):(listed.setIfInBounds d true).toList.count false<=k:=by
 have a:listed.toList[d]'(by simpa using hi)=false:=by unfold jG at h;simp[hi]at h;simpa using h
 grind
variable{M:Exit->Act->World->Prop}{s:cm}
def VM(hT:dH P T)(b_:kH P N)(p:n5 ops.toList 0=true)(V:vr ops.toList (ez N T ops.toList)=true)
 (E:((ez N T ops.toList).filter (λi=>i.hM)).Pairwise (λa b=>Pred ops.toList b.ix a.ix)) (al:∀o∈ops.toList,oZ G d o=true) {t:List Deferred}
 (hQ:∀D f m z A,Ext lz H0 w0 D A m->jt D z f.tmps->f.tmps.size=d->f.defers=t->s z A->M .normal f m):
 ∀(n:Nat) (listed:Array Bool) (a:Act) (w:World) (C:aL) (F:Fr) (H:ah) (done r:List Info),pX N T G ops lz H0 w0 done r F H listed a w C->g_ P G (Cd (ez N T ops.toList) (done++r) r done.length) F H s->
  listed.toList.count false<=n->a.tmps.size=d->a.defers=t->wpAnyIn (fw ro) nn P .any ops M n listed a w:=by
 have O:∀(listed:Array Bool) (a:Act) (w:World) (C:aL) (F:Fr) (H:ah) (done r:List Info),pX N T G ops lz H0 w0 done r F H listed a w C->g_ P G (Cd (ez N T ops.toList) (done++r) r done.length) F H s->
  a.tmps.size=d->a.defers=t->Region.ready .any ops listed=[]->M .normal a w:=by
  intro listed a w C F H done r c l g j q;obtain⟨rfl,ar⟩:=XL p (by rw[<-c.split];exact E) c q;exact hQ C a w F H c.ext ar g j l
 intro n;induction n with
 |zero=>
  intro listed a w C F H done r c l J g j;have q:Region.ready .any ops listed=[]:=by
   rw[List.eq_nil_iff_forall_not_mem];intro i hi;obtain⟨o,_,_,h,k,_⟩:=Tl hi;have:=MU k h (k:=0) aa;have hf:listed.toList[i]'(by simpa using k)=false:=by unfold jG at h;simp[k]at h;simpa using h
   have ae:false∈listed.toList:=by rw[<-hf];exact s5 _
   have:=List.count_pos_iff.2 ae;omega
  exact⟨q,O listed a w C F H done r c l g j q⟩
 |succ n X=>
  intro listed a w C F H done r c l J g j;refine⟨O listed a w C F H done r c l g j,λi hi=>?_⟩;obtain⟨o,Q,U,h,k,y⟩:=Tl hi;have W:mkInfo N T ops.toList i o∈ez N T ops.toList:=r8.2 ⟨i,o,U,rfl⟩;have I:(done++r).Pairwise (λa b=>Pred ops.toList b.ix a.ix):=by rw[<-c.split];exact E
  have S:∀o∈ops.toList,oZ G a.tmps.size o=true:=by rw[g];exact al
  have K:=MU k h J;cases B:(mkInfo N T ops.toList i o).hM with
  |false=>
   have am:Out N T ops r listed (mkInfo N T ops.toList i o):=by refine⟨W,B,λe L hp=>?_,h⟩;have hl:jG listed e.ix:=Gx p c.closed (λo' R=>by rw[show ops.toList[(mkInfo N T ops.toList i o).ix]? =some o from U]at R;cases R;exact y) hp;have ac:=(c.hG e (by simp[L])).1 hl;have:=(List.pairwise_append.1 I).2.2 e ac e L;have:=pred_lt p this;omega
   refine arh (x:=mkInfo N T ops.toList i o) hT b_ p V S c am Q k y ?_;intro f m D x u v;exact X _ f m D F H done r x l K (u.trans g) (v.trans j)
  |true=>refine e_step (x:=mkInfo N T ops.toList i o) hT b_ p V I S c W B h Q k y l ?_;intro f m D r' Y Z _ x aw u v;exact X _ f m D Y Z (done++[mkInfo N T ops.toList i o]) r' x aw K (u.trans g) (v.trans j)
variable{n:Bool}
theorem ate{id:Nat}(hT:dH P T)(b_:kH P N)(fI:P.follows .mixedOrders=true)(W:∀z∈ops.toList,oZ G a.tmps.size z=true)
 (Y:Rel C H w) (U:jt C F a.tmps) (V:mq G C) {l:List dW} (r:plan N T ops.toList n=some l) {O:cm} (v:g_ P G l F H O)
 (Q:∀D k w' K L,Ext C H w D L w'->jt D K k.tmps->k.tmps.size=a.tmps.size->k.defers=a.defers->O K L->M .normal k w'):(Code.region id ops n).wpIn (fw ro) nn P M a w:=by
 cases n with
 |false=>
  cases r;refine wpIn_region ?_;have:=asa (ro:=ro) (nn:=nn) (Q:=M) hT b_ W ops.toList 0 C F H a w (λj z hj=>by simpa using hj) rfl Y U V v Q
  grind [List.range_eq_range']
 |true=>
  obtain⟨b,r⟩:=dA.1 (show aX (and (n5 ops.toList 0) (and (vr ops.toList (ez N T ops.toList)) (C6 (l9 (λi=>i.hM) (ez N T ops.toList)))))
   (some (B9 (ez N T ops.toList) (l9 (λi=>i.hM) (ez N T ops.toList)) (l9 (λi=>i.hM) (ez N T ops.toList)) 0))=some l from r)
  cases r;rw[de,de,x2]at b;rw[x2]at v;obtain⟨m,ab,am⟩:=b;have p:∀y∈ez N T ops.toList,y.mask=maskAt ops.toList y.ix/\y.s=stepOf N T ops.toList y.o/\su (cop N T y.o.op)=y.hM:=by intro y g;obtain⟨i,z,_,rfl⟩:=r8.1 g;exact⟨rfl,rfl,rfl⟩
  have R:=Xj m (l:=(ez N T ops.toList).filter (λi=>i.hM)) (λx hx=>(p x (rU.1 hx).1).1) am;refine wpIn_region_any fI ?_;generalize S:(ez N T ops.toList).filter (λi=>i.hM)=c at*
  rw[T8,iW]at v;have bi:∀y∈ez N T ops.toList,(oQ c y.mask<=0↔tf ops.toList y c):=λy g=>Kj (done:=[]) m R (p y g).1
  have J:∀u,u∈nX (ez N T ops.toList) c 0↔u∈ez N T ops.toList/\u.hM=false/\tf ops.toList u c:=by
   intro u;unfold nX;rw[x2,rU];constructor
   .simp_all
   .simp_all
  obtain⟨A,B,a1,a0⟩:=T7 (λu f=>by
   obtain⟨b,d,_⟩:=(J u).1 f;rw[(p u b).2.1];show su (cop N T u.o.op)=false
   grind) (g_.app.1 v)
  have Z:Rel C H { w with drawn:=w.drawn+1 }:=Y.drew 1
  obtain⟨q1,bj,a7,a8,a9,a',bo⟩:=T6 (N:=N) (T:=T) (ol:=ops.toList) (B:=H.ag) (cf:=sB) (C:=C) (w:= { w with drawn:=w.drawn+1 }) (nX (ez N T ops.toList) c 0) F H A B (λ_=>False)
   (λu f=>by
     obtain⟨b,d,_⟩:=(J u).1 f;refine⟨(p u b).2.1,by grind,?_⟩;cases hd:u.o.dst with
     |none=>grind [sO]
     |some t=>grind [sO])
   (λ_ _ h=>h.elim)
   (by
     unfold nX;rw[x2];refine(List.Pairwise.filter _ (Lf ops.toList)).imp_of_mem ?_;intro u1 u2 a2 a4 be t I;have a3:=(rU.1 a2);have ac:=(rU.1 a4);have bc:u2.hM=false:=by have:=ac.2;rw[de]at this;simpa using this.1
     rcases((sO ab ac.1).2 t I).2 u1 a3.1 with h|h|h|h
     .omega
     .exact h
     .have:=pred_lt m h;omega
     grind)
   Z (aJ _) (λ_ h=>h.elim) (λ_ _ h=>h.elim) a1
  have q:∀i,¬jG (w7 ops.size false) i:=by
   intro i h;unfold jG at h;by_cases hi:i<ops.size
   .simp[hi]at h
   .grind
  have ap:Ext C H w C H { w with drawn:=w.drawn+1 }:=⟨Z,aL.le_refl C,λb d=>absurd (b.symm.trans d) aI,λ_ _ _=>rfl,aJ _,λ_ _=>rfl,aJ _,⟨rfl,rfl,rfl,λh=>h,λ_ cs _ _ h=>⟨cs,h,rfl⟩⟩,λ_ h=>⟨h,rfl⟩,λ_ _ e=>.inl e⟩;have X:∀y,Out N T ops c (w7 ops.size false) y↔y∈nX (ez N T ops.toList) c 0:=by intro y;rw[J];exact⟨λ⟨b,d,E,_⟩=>⟨b,d,E⟩,λ⟨b,d,E⟩=>⟨b,d,E,q _⟩⟩
  have hc:pX N T G ops C H w [] c A B (w7 ops.size false) a { w with drawn:=w.drawn+1 } C:=by
   refine⟨S,aI,λi z h=>absurd h (q i),λe _=>⟨λh=>absurd h (q _),λh=>by cases h⟩,λx _ _ h=>absurd h (q _),Qf ap q1 a9 a',V,?_,λy g=>a7 y ((X y).1 g),?_⟩
   .intro t I aw;rw[a8 t (λu f=>aw u ((X u).2 f))];exact U t I
   .grind
  exact VM (lz:=C) (H0:=H) (w0:=w) hT b_ m ab (by rw[S];exact R) W Q ops.size _ a _ C A B [] c hc a0 aI rfl rfl
end
section
variable {P:Program}{N:fh}{T:c6}{G:Nat}
theorem least{I:Nat->Prop}:∀ {k:Nat},I k->∃m,I m/\∀j,I j->m<=j:=by
 intro k;induction k using j3 with
 |_ k a=>grind
variable{d:Nat}{M:Exit->Act->World->Prop}{r:World}
open Classical in
theorem awE{i:Fence}{c:Code}(I:Nat->Act->World->Prop)(round:∀k a r,I k a r->c.wpIn i d P (Exit.then (λf g=>∃m,m<k/\I m f g) M) a r){k:Nat}{a:Act}(s:I k a r):(Code.loop c).wpIn i d P M a r:=by
 refine wpIn_loop (λa r=>∃k,I k a r) (λa r=>if h:∃k,I k a r then Classical.choose (least (I:=λk=>I k a r) (Classical.choose_spec h))else 0) ⟨k,s⟩ ?_;intro a r p;have q:=Classical.choose_spec (least (I:=λk=>I k a r) (Classical.choose_spec p));refine wpIn_mono (round _ a r q.1) ?_;intro e f g b;cases e with
 |normal=>
  obtain⟨m,u,o⟩:=b;have j:∃k,I k f g:=⟨m,o⟩;have v:=Classical.choose_spec (least (I:=λk=>I k f g) (Classical.choose_spec j));refine⟨j,?_⟩
  grind
 |exit id=>exact b
 |goto l=>exact b
 |ret=>exact b
 |panic t=>exact b
 |outgrown=>exact b
def X.exit':X->Exit
 |.norm=>.normal
 |.exit id=>.exit id
 |.ret=>.ret
structure oA (B:Nat) (C:aL) (H:ah) (w:World) (D:aL) (H':ah) (w':World):Prop where
 rel:Rel D H' w'
 le:∀ {b:Nat}{l:Loc},b<B->C b=some l->D b=some l
 fresh:∀ {b:Nat}{l:Loc},(b<B->C b=none)->D b=some l->B<=b/\(w.heap.size<=l.c\/∃b0 l0,C b0=some l0/\l0.c=l.c)
 pK:∀ {b:Nat},b<B->C b=none->(∀x y,H.get b≠ .bV x y)->H'.get b=H.get b
 ag:B<=H'.ag
 nA:∀ {c:Nat},c<w.heap.size->(∀b l,C b=some l->l.c≠c)->w'.heap[c]? =w.heap[c]?
 size:w.heap.size<=w'.heap.size
 same:iQ w w'
 kO:∀ {b:Nat}{l:Loc},b<B->C b=some l->H.get b=.none->H'.get b=.none/\w'.heap[l.c]? =w.heap[l.c]?
 zw:∀(c:Nat) (x:Obj),C.im c=some x->D.im c=some x
 oR:∀(c:Nat) (x:Obj),D.im c=some x->C.im c=some x\/w.heap.size<=c\/∃b l,C b=some l/\l.c=c/\H.get b≠ .none
 IM:∀ {b b':Nat}{l l':Loc},C b=some l->H.get b=.none->l.c<w.heap.size->D b'=some l'->l'.c=l.c->H'.get b'=.none
variable{o:aL}{b:ah}{I:ah}
theorem Ext.sP{B:Nat}{D:aL}{m:World}(h:Ext o b r D I m)(j:B<=b.ag):oA B o b r D I m:=by
 refine⟨h.rel,λ_ e=>h.le _ _ e,?_,λd s t=>h.pK (fy d j) s t,c5 j h.ag,h.nA,h.size,h.same,λ_ c f=>h.kO c f,h.le.im,h.oR,?_⟩
 rotate_left
 .intro a n l y c f _ p q;by_cases d:n=a
  .rw[d];exact(h.kO c f).1
  .rcases h.rel.inj p (h.le a l c) q d with⟨_,_,g,_,_,bX⟩|⟨u,_⟩
   .rw[(h.kO c f).1]at bX;cases bX
   .exact u
 intro a l d e;cases i:o a with
 |none=>
  obtain⟨v,w⟩:=h.fresh i e
  grind
 |some k=>refine⟨k4 (λx=>by grind),.inr ⟨a,k,i,?_⟩⟩;rw[h.le a k i]at e;cases e;rfl
def oA.full{D:aL}{f:World}(k:Rel o b r)(h:oA b.ag o b r D I f):Ext o b r D I f:=by
 have d:∀ {a:Nat}{l:Loc},o a=some l->a<b.ag:=λ{a l} e=>uC λj=>by rw[(k.top j).1]at e;cases e
 exact⟨h.rel,⟨λa l e=>h.le (d e) e,h.zw⟩,λi e=>h.fresh (λ_=>i) e,h.pK,h.ag,h.nA,h.size,h.same,λc g=>h.kO (d c) c g,h.oR⟩
theorem oA.trans{B:Nat}{D O:aL}{E F:ah}{M N:World}(h:oA B o I r D E M)(d:oA B D E M O F N):oA B o I r O F N:=by
 have U:∀ {f:Nat}{g:Loc},D f=some g->r.heap.size<=g.c\/∃v j,o v=some j/\j.c=g.c:=by
  intro f g e;by_cases p:f<B->o f=none
  .exact(h.fresh p e).2
  .have G:f<B/\o f≠none:=by refine⟨qI λC=>p λn=>absurd n C,λC=>p λ_=>C⟩
   cases q:o f with
   |none=>exact absurd q G.2
   |some j=>
    have:=h.le G.1 q
    grind
 have K:∀ {b:Nat},b<B->o b=none->D b=none:=by
  intro b a y;cases e:D b with
  |none=>rfl
  |some l=>exact absurd (h.fresh (λ_=>y) e).1 aa
 refine⟨d.rel,λa e=>d.le a (h.le a e),?_,?_,d.ag,?_,c5 h.size d.size,h.same.trans d.same,λa i s=>let⟨R,S⟩:=h.kO a i s;let⟨V,W⟩:=d.kO a (h.le a i) R;⟨V,W.trans S⟩,λm x e=>d.zw m x (h.zw m x e),?_,?_⟩
 rotate_left 3
 .intro m x e;rcases d.oR m x e with e|e|⟨b,l,i,s,w⟩
  .exact h.oR m x e
  .exact .inr (.inl (c5 h.size e))
  .rcases U i with t|⟨f,g,t,k⟩
   .omega
   .by_cases L:g.c<r.heap.size
    .exact .inr (.inr ⟨f,g,t,k.trans s,λu=>w (h.IM t u L i k.symm)⟩)
    omega
 .intro b P l X i s q w t;have L:=h.size;by_cases a:∃v j,D v=some j/\j.c=l.c
  .obtain⟨v,j,k,u⟩:=a;exact d.IM k (h.IM i s q k u) aa w (t.trans u.symm)
  .rcases(d.fresh (λz=>by
    cases Q:D P with
    |none=>rfl
    |some j=>
     have:=d.le z Q
     grind) w).2 with k|⟨f,g,k,u⟩
   .omega
   grind
 .intro b l a e;obtain⟨n,A⟩:=d.fresh (λz=>K z (a z)) e;refine⟨n,?_⟩;rcases A with A|⟨f,g,q,i⟩
  .exact .inl (c5 h.size A)
  grind
 .intro b a y J;have n:=h.pK a y J;rw[<-n];exact d.pK a (K a y) (by rw[n];exact J)
 .intro m p T;rw[<-h.nA p T];refine d.nA (fy p h.size) (λb l e=>?_)
  grind
theorem mq.ext{B:Nat}{D:aL}{f:World}(g:mq G o)(d:G<=B)(h:oA B o b r D I f):mq G D:=λc a=>let⟨l,e⟩:=g c a;⟨l,h.le (fy a d) e⟩
def mq.ag(g:mq G o)(a:Rel o b r):G<=b.ag:=by
 refine k4 λh=>?_
 obtain⟨c,e⟩:=g b.ag h;rw[(a.top (aJ _)).1]at e;cases e
def Marks(C:aL)(w:World)(lo:Nat):List Deferred->Prop
 |[]=>True
 |d::ds=>(∃r,d.target=.collected r/\lo<=r/\w.heap[r]? =some (.deferred (some []))/\(∀b l,C b=some l->l.c≠r)/\(∀a∈ds,a.target≠ .collected r))/\Marks C w lo ds
theorem Marks.ext{B:Nat}{D:aL}{m:World}(h:oA B o b r D I m){lo:Nat}:∀ {ms:List Deferred},Marks o r lo ms->Marks D m lo ms
 |[],_=>trivial
 |_::_,⟨⟨k,c,p,i,q,s⟩,t⟩=>by
  have u:k<r.heap.size:=(Array.getElem?_eq_some_iff.1 i).1;refine⟨⟨k,c,p,(h.nA u q).trans i,?_,s⟩,t.ext h⟩;intro a l e;by_cases d:a<B->o a=none
  .rcases(h.fresh d e).2 with n|⟨w,v,n,x⟩
   .omega
   grind
  .have j:a<B/\o a≠none:=⟨qI λf=>d λc=>absurd c f,λf=>d λ_=>f⟩;cases g:o a with
   |none=>exact absurd g j.2
   |some v=>
    have:=h.le j.1 g
    grind
theorem Marks.lt{lo:Nat}:∀ {ms:List Deferred},Marks o r lo ms->∀d∈ms,∀a,d.target=.collected a->lo<=a/\a<r.heap.size
 |[],_,d,hd=>by cases hd
 |_::_,⟨⟨a,f,g,h,_⟩,b⟩,d,hd=>by
  intro e c;rcases jr.1 hd with rfl|hd
  .grind
  .exact b.lt d hd e c
variable{a:Nat}
theorem Marks.app{lo:Nat}(f:lo<=a):∀ {ms c:List Deferred},Marks o r a ms->Marks o r lo c->(∀d∈c,∀b,d.target=.collected b->b<a)->Marks o r lo (ms++c)
 |[],_,_,h,_=>h
 |_::_,_,⟨⟨b,j,k,l,m,n⟩,p⟩,i,q=>by
  refine⟨⟨b,j,c5 f k,l,m,?_⟩,Marks.app f p i q⟩;intro g hd' e;rcases ki.1 hd' with hd'|hd'
  .exact n g hd' e
  grind
def k8(B n:Nat)(C:aL)(H:ah)(w:World)(a:Act)(Q:b5)(e:Exit)(b:Act)(f:World):Prop:=∃x c d D ms,e=X.exit' x/\oA B C H w D d f/\jt D c b.tmps/\b.tmps.size=n/\b.defers=ms++a.defers/\Marks D f w.heap.size ms/\Q x c d
def iR(P:Program)(G B n:Nat)(rd:Bool)(c:Code)(F:Fr)(H:ah)(Q:b5):Prop:=∀(C:aL) (a:Act) (w:World) (b:cq),(rd=false->b=none)->a.tmps.size=n->Rel C H w->jt C F a.tmps->mq G C->G<=B->B<=H.ag->c.wpIn (fw b) 0 P (k8 B n C H w a Q) a w
def k8.mono{B:Nat}{a:Act}{Q Q':b5}(h:∀x F b,Q x F b->Q' x F b){e:Exit}{c:Act}{f:World}(p:k8 B d o b r a Q e c f):k8 B d o b r a Q' e c f:=let⟨x,g,i,D,ms,j,k,l,m,q,s,t⟩:=p;⟨x,g,i,D,ms,j,k,l,m,q,s,h _ _ _ t⟩
variable{j:Fr}
def k8.here{B:Nat}{a:Act}{Q:b5}(x:X)(f:a.tmps.size=d)(g:Rel o b r)(e:jt o j a.tmps)(c:B<=b.ag)(h:Q x j b):k8 B d o b r a Q x.exit' a r:=⟨x,j,b,o,[],rfl,(Ext.refl g).sP c,e,f,rfl,trivial,h⟩
theorem k8.after{B:Nat}{D:aL}{H:ah}{c:World}{a g:Act}{ms:List Deferred}(i:oA B o H r D b c)(E:g.defers=ms++a.defers)(j:Marks D c r.heap.size ms){Q:b5}{e:Exit}{f:Act}{k:World}(p:k8 B d D b c g Q e f k):k8 B d o H r a Q e f k:=by obtain⟨x,l,m,A,y,s,h,g3,t,C,u,bp⟩:=p;refine⟨x,l,m,A,y++ms,s,i.trans h,g3,t,by grind,Marks.app i.size u (j.ext h) (λq v z w=>(j.lt q v z w).2),bp⟩
section
variable {B n:Nat}{rd:Bool}{F:Fr}{H:ah}{Q Q':b5}
def iR.mono{c:Code}(k:∀x F H,Q x F H->Q' x F H)(h:iR P G B n rd c F H Q):iR P G B n rd c F H Q':=λ_ _ _ _ b d e f g i j=>wpIn_mono (h _ _ _ _ b d e f g i j) λ_ _ _=>k8.mono k
theorem F1(h:Q .norm F H):iR P G B n rd .skip F H Q:=λ_ _ _ _ _ a b c _ _ d=>wpIn_skip (k8.here .norm a b c d h)
theorem FV(h:Q .norm F H):iR P G B n rd (.label a) F H Q:=λ_ _ _ _ _ b c d _ _ e=>wpIn_label (k8.here .norm b c d e h)
theorem FY(h:Q .ret F H):iR P G B n rd .ret F H Q:=λ_ _ _ _ _ a b c _ _ d=>wpIn_ret (k8.here .ret a b c d h)
theorem FU{id:Nat}(h:Q (.exit id) F H):iR P G B n rd (.exit id) F H Q:=λ_ _ _ _ _ a b c _ _ d=>wpIn_exit (k8.here (.exit id) a b c d h)
def gy(K:cm)(Q:b5):b5
 |.norm,F,H=>K F H
 |x,F,H=>Q x F H
def F0{k l:Code}(h:iR P G B n rd k F H (gy (λp q=>iR P G B n rd l p q Q) Q)):iR P G B n rd (.seq k l) F H Q:=by
 intro C a w y m r s t o g u;refine wpIn_seq (wpIn_mono (h _ _ _ _ m r s t o g u) ?_);rintro e v z ⟨x,i,j,D,ms,rfl,b,g3,c,d,f,bp⟩;cases x with
 |norm=>exact wpIn_mono (bp _ _ _ _ m c b.rel g3 (o.ext g b) g b.ag) λ_ _ _=>k8.after b d f
 |exit id=>exact⟨.exit id,i,j,D,ms,rfl,b,g3,c,d,f,bp⟩
 |ret=>exact⟨.ret,i,j,D,ms,rfl,b,g3,c,d,f,bp⟩
variable{i:Operand}
theorem At{c d:Code}{f:Fr->V}{t:Bool}(r:sC G n i=true)(q:gQ i=some f)(p:f F=.bool t)(h:iR P G B n rd (if t then c else d) F H Q):iR P G B n rd (.cond i c d) F H Q:=by
 intro C a w s j k l e g o m;have b:=Ji e g (by grind [Ev]) q;rw[p]at b;refine wpIn_cond (t:=t) ?_ (h _ _ _ _ j k l e g o m);generalize a.eval i=u at b
 cases b;rfl
def hD(id:Nat)(Q:b5):b5
 |.exit i,F,H=>if i=id then Q .norm F H else Q (.exit i) F H
 |x,F,H=>Q x F H
def FT{id:Nat}{c:Code}(h:iR P G B n rd c F H (hD id Q)):iR P G B n rd (.block id c) F H Q:=by
 intro C a w y p q r s t v u;refine wpIn_block (wpIn_mono (h _ _ _ _ p q r s t v u) ?_);rintro e m o ⟨x,b,d,D,ms,rfl,f,g3,g,j,k,bp⟩;cases x with
 |norm=>exact⟨.norm,b,d,D,ms,rfl,f,g3,g,j,k,bp⟩
 |ret=>exact⟨.ret,b,d,D,ms,rfl,f,g3,g,j,k,bp⟩
 |exit i=>
  show(if i=id then k8 B n C H w a Q .normal m o else k8 B n C H w a Q (.exit i) m o);have l:if i=id then Q .norm b d else Q (.exit i) b d:=bp
  by_cases hi:i=id
  .rw[ay hi]at l⊢;exact⟨.norm,b,d,D,ms,rfl,f,g3,g,j,k,l⟩
  .rw[ao hi]at l⊢;exact⟨.exit i,b,d,D,ms,rfl,f,g3,g,j,k,l⟩
theorem FW{c:Code}(I:Nat->cm)(Y:∀k F H,I k F H->iR P G B n rd c F H (gy (λf g=>∃m,m<k/\I m f g) Q)){k:Nat}(L:I k F H):iR P G B n rd (.loop c) F H Q:=by
 intro C a w ro M N O R S y T;refine awE (λk i u=>∃f g D ms,I k f g/\oA B C H w D g u/\jt D f i.tmps/\i.tmps.size=n/\i.defers=ms++a.defers/\Marks D u w.heap.size ms) ?_ (k:=k) ⟨F,H,C,[],L,(Ext.refl O).sP T,R,N,rfl,trivial⟩;rintro k i u ⟨f,g,D,ms,A,b,E,J,ab,v⟩;refine wpIn_mono (Y k f g A _ _ _ _ M J b.rel E (S.ext y b) y b.ag) ?_;rintro e z Z ⟨x,o,p,l,h,rfl,j,g3,q,ac,K,bp⟩;have t:Marks l Z w.heap.size (h++ms):=Marks.app b.size K (v.ext j) (λd V r X=>(v.lt d V r X).2);have s:z.defers=(h++ms)++a.defers:=b4;cases x with
 |norm=>obtain⟨m,W,U⟩:=bp;exact⟨m,W,o,p,l,h++ms,U,b.trans j,g3,q,s,t⟩
 |exit id=>exact⟨.exit id,o,p,l,h++ms,rfl,b.trans j,g3,q,s,t,bp⟩
 |ret=>exact⟨.ret,o,p,l,h++ms,rfl,b.trans j,g3,q,s,t,bp⟩
def FX(hT:dH P T)(b_:kH P N)(fI:P.follows .mixedOrders=true){id:Nat}{b:Array Oper}{c:Bool}{l:List dW}(u:nC (oZ G n) b.toList=true)(v:plan N T b.toList c=some l)(h:g_ P G l F H (Q .norm)):iR P G B n rd (.region id b c) F H Q:=by intro C a w A y d p q r z s;refine ate hT b_ fI (by rw[d];exactλo t=>wv.1 u o t) p q r v h ?_;intro D x E e f g i j k m;exact⟨.norm,e,f,D,[],rfl,g.sP s,i,j.trans d,k,trivial,m⟩
def FZ{c:Code}(h:iR P G B n false c F H Q):iR P G B n false (.scope c) F H Q:=by
 intro C a w q f i j k l o m;cases f rfl;refine(wpIn_wide (n:=0)).2 (wp_scope_straight ((wpIn_wide (n:=0)).1 (wpIn_mono (h _ _ _ _ (λ_=>rfl) i j k l o m) ?_)));rintro e p r ⟨x,b,d,D,ms,rfl,g⟩;cases x with
 |norm=>exact⟨.norm,b,d,D,ms,rfl,g⟩
 |exit id=>exact⟨.exit id,b,d,D,ms,rfl,g⟩
 |ret=>exact⟨.ret,b,d,D,ms,rfl,g⟩
end
def ajS(a:Rel o b r)(x:Obj):Ext o b r o b (r.alloc x):=by
 have j:∀ {c:Nat},c<r.heap.size->(r.alloc x).heap[c]? =r.heap[c]? :=by intro c h;show(r.heap.push x)[c]? =_;simp[Array.getElem?_push,Nat.ne_of_lt h]
 have w:(r.alloc x).heap.size=r.heap.size+1:=by show(r.heap.push x).size=_;simp
 have m:∀ {c i:Nat},c<r.heap.size->(r.alloc x).cell? ⟨c,i,none⟩=r.cell? ⟨c,i,none⟩:=by intro c i h;unfold World.cell?;rw[j h]
 have t:∀ {c i:Nat},c<r.heap.size->(r.alloc x).frozen? ⟨c,i,none⟩=r.frozen? ⟨c,i,none⟩:=by intro c i h;unfold World.frozen?;rw[j h]
 refine⟨⟨?_,?_,a.len,a.inj,a.top,?_,a.mem,a.n7,?_,λe=>(a.gf e).keep (j (a.gf e).lt) (a.gf e).off,a.n9⟩,aL.le_refl o,λd f=>absurd (d.symm.trans f) aI,λ_ _ _=>rfl,aJ _,λh _=>j h,aa,iQ.alloc r x,λd f=>⟨f,j (a.loc d)⟩,λ_ _ e=>.inl e⟩
 .intro k l u g i v d f n p;rw[m (a.loc d)];exact a.cell d f n p
 .intro k l i d f;rw[m (a.loc d),t (a.loc d)];exact a.room d f
 .intro k l d;have:=a.loc d;omega
 .intro k l y d f;obtain⟨q,s⟩:=a.bW d f;exact⟨q,s.mono (aL.le_refl o) (j (a.loc d))⟩
theorem ajW(d:Rel o b r)(p:∀k l,o k=some l->l.c≠a)(D:∀n t q,r.heap[a]? ≠some (.cells n t q))(x:Obj):Rel o b (ji r a x):=by
 have E:(ji r a x).heap.size=r.heap.size:=by simp[ji]
 have s:∀ {j i:Nat},j≠a->(ji r a x).cell? ⟨j,i,none⟩=r.cell? ⟨j,i,none⟩:=by intro j i h;unfold World.cell?;grind [o3]
 have C:∀ {j i:Nat},j≠a->(ji r a x).frozen? ⟨j,i,none⟩=r.frozen? ⟨j,i,none⟩:=by intro j i h;unfold World.frozen?;grind [o3]
 refine⟨?_,?_,d.len,d.inj,d.top,?_,d.mem,d.n7,?_,λ{j y} e=>(d.gf e).keep (o3 (λu=>by obtain⟨n,t,q,m⟩:=(d.gf e).kind;refine D n t q ?_;rw[u,<-m];exact(d.gf e).obj) x) (d.gf e).off,d.n9⟩
 .intro k l n g i v f m w z;rw[s (p k l f)];exact d.cell f m w z
 .intro k l i f m;rw[s (p k l f),C (p k l f)];exact d.room f m
 .intro k l f;rw[E];exact d.loc f
 .intro k l F f m;obtain⟨A,B⟩:=d.bW f m;exact⟨A,B.mono (aL.le_refl o) (o3 (λe=>p k l f e.symm) x)⟩
theorem akv:∀(args:au) (i:Nat) (F:Fr) (t:Nat),(mV args i F).get V.undef t=if i<=t/\t<i+af args then(args[t-i]?).getD V.undef else F.get V.undef t:=by
 intro args;induction args with
 |nil=>intro i F t;rw[ao aI];rfl
 |cons v args a=>
  intro i F t;show(mV args (i+1) (F.set V.undef i v)).get V.undef t=_;rw[a,aY.aT]
  grind
def zP(tmps:Array Value):ResultVar->Sem Value
 |.tmp t=>pure (tmps.getD t undef)
 |.cell a t=>do loadVar t (<-asAddr (tmps.getD a undef))
theorem atM(a:Addr)(w:World):(asAddr (.pointer (some a))).run P w=.ok a w:=rfl
variable{c:au}
def atm(hT:dH P T){tmps:Array Value}(E:Rel o b r)(q:jt o j tmps){fn:Func}(l:∀x∈fn.results.toList,JQ tmps.size x=true)(h:tS T j b fn.results.toList=some c):
 ∃i,(results fn tmps).run P r=.ok i r/\aP o (qw c) i:=by
 have key:∀(rs:List ResultVar),(∀x∈rs,JQ tmps.size x=true)->∀c,tS T j b rs=some c->∃d,(rs.mapM (zP tmps)).run P r=.ok d r/\bu o c d:=by
  intro rs;induction rs with
  |nil=>intro _ c h;cases h;exact⟨[],rfl,.nil⟩
  |cons x rs J=>
   intro l c h;obtain⟨v,f,h⟩:=aB.1 (show aq (JR T j b x) (λv=>aq (tS T j b rs) λL=>some (v::L))=some c from h);obtain⟨K,D,h⟩:=aB.1 h;cases h;obtain⟨d,n,k⟩:=J (λy I=>l y (by simp[I])) K D;have u:=l x aI;cases x with
   |tmp t=>cases f;refine⟨tmps.getD t undef::d,?_,.cons (q t ((fV _ _).1 u)) k⟩;rw[List.mapM_cons];simp only[zP,eE,gl,eO];rw[n];rfl
   |cell a t=>
    obtain⟨g,C,f⟩:=aB.1 (show aq (T.isAgg t) _=some v from f);obtain⟨s,G,f⟩:=aB.1 f;obtain⟨M,z,i,A,B⟩:=R9 hT E C G (q a ((fV _ _).1 u)) f;refine⟨i::d,?_,.cons B k⟩;rw[List.mapM_cons];have N:(zP tmps (.cell a t)).run P r=.ok i r:=by simp only[zP,eE,z,atM,eO,A]
    simp_all
 obtain⟨d,n,k⟩:=key _ l c h;have O:(fn.results.mapM (zP tmps)).run P r=.ok ⟨d⟩ r:=by rw[Array.mapM_eq_mapM_toList];simp only[Sem.run_map,n,eO]
 refine⟨if h:(⟨d⟩:Array Value).size=1 then(⟨d⟩:Array Value)[0]else .tuple ⟨d⟩,?_,?_⟩
 .have e:results fn tmps=(do let p<-fn.results.mapM (zP tmps);pure (if h:p.size=1 then p[0]else .tuple p)):=rfl;simp_all
 .cases k with
  |nil=>exact .aH .nil
  |cons a m=>cases m with
   |nil=>simpa [qw]using a
   |cons m w=>rw[dif_neg aI];exact .aH (.cons a (.cons m w))
theorem apX{fn:Func}{tmps:Array Value}{C:aL}{H H':ah}{w:World}{R:Ending->World->Prop}{D:aL}{v:V}(J:∀a,Rel D H' a->∃g,(results fn tmps).run P a=.ok g a/\aP D v g)(B:∀g a,Ext C H w D H' a->aP D v g->R (.returned g) a):
 ∀(ms:List Deferred) (a:World),Ext C H w D H' a->Marks D a w.heap.size ms->LeavesInM (fw none) 0 P fn tmps R ms .returning a:=by
 intro ms;induction ms with
 |nil=>intro a f _;obtain⟨g,m,p⟩:=J a f.rel;exact⟨g,m,B g a f p⟩
 |cons d ms n=>
  rintro a f ⟨⟨r,m,p,h,q,z⟩,A⟩;have O:r<a.heap.size:=(Array.getElem?_eq_some_iff.1 h).1;refine⟨aI,.inl ⟨r,ji a r (.deferred none),m,run_takeDeferred h,n _ ?_ ?_⟩⟩
  .refine⟨ajW f.rel q (λL t N e=>by rw[h]at e;cases e) _,f.le,f.fresh,f.pK,f.ag,?_,?_,f.same.trans (ET h rfl aI _),λ{b l} o s=>let⟨j,k⟩:=f.kO o s;⟨j,(o3 (λe=>q b l (f.le b l o) e.symm) _).trans k⟩,f.oR⟩
   .intro c E I;rw[o3 aa];exact f.nA E I
   .show w.heap.size<=(ji a r (.deferred none)).heap.size;have:(ji a r (.deferred none)).heap.size=a.heap.size:=by simp[ji]
    omega
  .have key:∀(ms:List Deferred),(∀i∈ms,i.target≠ .collected r)->Marks D a w.heap.size ms->Marks D (ji a r (.deferred none)) w.heap.size ms:=by
    intro ms;induction ms with
    |nil=>exactλ_ _=>trivial
    |cons M ms n=>
     rintro G ⟨⟨K,j,k,g3,u,x⟩,y⟩;refine⟨⟨K,j,k,?_,u,x⟩,n (λi F=>G i (by simp[F])) y⟩
     grind [o3]
   exact key ms z A
def atn{args:au}{b:List Value}(h:bu o args b)(k:args.length<=a):jt o (mV args 0 .nil) ((⟨b⟩:Array Value)++w7 (a-(⟨b⟩:Array Value).size) undef):=by
 have j:=h.length;intro t e;have d:((⟨b⟩:Array Value)++w7 (a-(⟨b⟩:Array Value).size) undef).size=a:=e7;show aP o ((mV args 0 aY.nil).get V.undef t) _;rw[akv];rw[d]at e;by_cases c:t<args.length
 .rw[ay aa];obtain⟨u,l,f,g,i⟩:=h.getD c;simp_all
 .rw[ao aa,aY.get_nil];have:((⟨b⟩:Array Value)++w7 (a-(⟨b⟩:Array Value).size) undef).getD t undef=undef:=by simp[Array.getElem?_append,(aa:¬t<b.length)];rw[Array.getElem?_replicate];split<;>rfl
  rw[this];exact .aH .nil
variable{A:FuncId}
theorem Gu(hT:dH P T)(b_:kH P N){fn:Func}{c:Code}{args:au}{Q:V->ah->Prop}(J:N.get aN A=some fn)(m:fn.body=some c)(a:and (uU G fn c) (b6 (c_ args) fn.ntmps)=true)
 (h:iR P G b.ag fn.ntmps false c (mV args 0 .nil) b λx j d=>(∀id,x≠ .exit id)/\∃l,tS T j d fn.results.toList=some l/\Q (qw l) d):dD P G (.fn A) args b Q:=by
 rw[de,fV,iw]at a;obtain⟨a,K⟩:=a;unfold uU at a;rw[de,de]at a;obtain⟨L,ab,O⟩:=a;have o:=b_ A fn J;refine⟨⟨fn,c,o,m,by simpa using L⟩,?_⟩;intro C w f i p k;have Z:=k.length;have R:((⟨f⟩:Array Value)++w7 (fn.ntmps-(⟨f⟩:Array Value).size) undef).size=fn.ntmps:=e7;refine(callsIn_wide (n:=0)).1 (callsIn_of_wp_marks (F:=fw none) o m trivial ?_ rfl);refine wpIn_mono (h C { tmps:=(⟨f⟩:Array Value)++w7 (fn.ntmps-(⟨f⟩:Array Value).size) undef,defers:=[] } w none (λ_=>rfl) R i (atn k K) p (p.ag i) (aJ _)) ?_;rintro e g r ⟨x,j,d,D,ms,rfl,s,g3,t,u,v,Y,l,z,B⟩;have E:g.defers=ms:=by rw[u];simp
 have q:LeavesInM (fw none) 0 P fn g.tmps (Post C b w Q) g.defers .returning r:=by
  rw[E];refine apX (D:=D) (H':=d) (v:=qw l) (C:=C) (H:=b) (w:=w) ?_ ?_ ms r (s.full i) v
  .intro X M;exact atm hT M g3 (by rw[t];exactλy U=>wv.1 O y U) z
  .intro W X I S;exact⟨qw l,W,d,D,rfl,I,S,B⟩
 cases x with
 |norm=>exact q
 |ret=>exact q
 |exit id=>grind
def x3{L:uk}(h:b.qn a=some L):b.get a=.bW (.loop L):=by
 unfold ah.qn at h;cases c:b.get a<;>rw[c]at h<;>first|(cases h;done)|skip
 rename_i o;cases o<;>cases h;rfl
def ato:∀ {b:av}{args:au}{F d:Fr}{c:List Value}{tmps:Array Value},params0 b args F=some d->bu o args c->jt o F tmps->
 c.length=b.length/\jt o d ((b.zip c).foldl (λtmps (t,a)=>tmps.setIfInBounds t a) tmps)/\((b.zip c).foldl (λtmps (t,a)=>tmps.setIfInBounds t a) tmps).size=tmps.size:=by
 intro b;induction b with
 |nil=>
  intro args F d c tmps h f e;cases args with
  |nil=>cases f;cases h;exact⟨rfl,e,rfl⟩
  |cons a args=>cases h
 |cons p b q=>
  intro args F d c tmps h f e;cases args with
  |nil=>cases h
  |cons v args=>
   cases f with
   |cons l m=>rename_i r c;have k:params0 b args (aY.vn V.undef v (path p) F)=some d:=h;have n:jt o (aY.vn V.undef v (path p) F) (tmps.setIfInBounds p r):=jt.put (a:= { tmps:=tmps,defers:=[] }) (d:=some p) e l;obtain⟨g,i,j⟩:=q k m n;refine⟨by simp[g],i,?_⟩;rw[List.zip_cons_cons,List.foldl_cons,j];simp
def W2{args:au}{Q:V->ah->Prop}{L:uk}(ac:b.qn d=some L){F:Fr}(hp:params0 L.params args L.F=some F)
 (h:iR P G b.ag L.n true L.assign F b λx J m=>x=.norm/\∃o,m.qn d=some o/\o.st=0/\iR P G b.ag L.n true L.body J (m.set d (.bW (.loop { o with st:=1 }))) λx _ s=>∃p,s.qn d=some p/\Q (.bool (DZ x)) (s.set d (.bW (.loop { p with st:=E5 x,pM:=u5 x })))):
 dD P G (.jZ d) args b Q:=by
 intro C w u l i q ad hl;obtain⟨cd,r,ap,ar,aw,O,a0,a1,ce,cf⟩:=i.bW hl (x3 ac);obtain⟨T,U,W⟩:=ato hp ad ar;have a4:(⟨u⟩:Array Value).size=r.params.size:=by rw[O];simpa using T
 have a5:((r.params.zip ⟨u⟩).foldl (λtmps (t,a)=>tmps.setIfInBounds t a) r.tmps)=((L.params.zip u).foldl (λtmps (t,a)=>tmps.setIfInBounds t a) r.tmps):=by rw[O,<-Array.foldl_toList];simp
 refine⟨r.fn,_,r.assign,r.body,run_yield ap a4,?_⟩;rw[a0,a5];refine roundIn_of_wpIn (F:=Fence.wide) trivial ?_;refine wpIn_mono (h C { tmps:=(L.params.zip u).foldl (λtmps (t,a)=>tmps.setIfInBounds t a) r.tmps,defers:=[] } w (some l.c) aI (by show Array.size _=_;rw[W];exact aw) i U q (q.ag i) (aJ _)) ?_;rintro e bs k ⟨x,J,m,D,ms,rfl,g,g3,Y,ca,cb,rfl,o,M,ab,Z⟩;have N:d<b.ag:=uC λhb=>by rw[(i.top hb).1]at hl;cases hl
 have z:D d=some l:=g.le N hl;obtain⟨_,A,k1,k2,bX,bd,be,bi,eB,lH⟩:=g.rel.bW z (x3 M);have a3:A.state=.ready:=by rw[eB,ab];rfl
 have y:Ext D m k D (m.set d (.bW (.loop { o with st:=1 }))) (ji k l.c (.loop { A with state:=.busy })):=zc g.rel z (x3 M) ⟨{ A with state:=.busy },zM (g.rel.loc z) _,k2,bX,bd,be,bi,rfl,lH⟩
 refine⟨ji k l.c (.loop { A with state:=.busy }),run_beginRound k1 a3,?_⟩;have a2:r.body=L.body:=a1;rw[a2];refine wpIn_mono (Z _ _ _ (some l.c) aI Y y.rel g3 ((q.ext (q.ag i) g).mono y.le) (q.ag i) (c5 g.ag y.ag)) ?_;rintro e bv w2 ⟨x,bo,s,S,co,rfl,j,f3,f4,f5,f6,p,K,k_⟩;have I:S d=some l:=j.le N z;obtain⟨_,R,j1,j2,a8,a9,a',ba,ch,ci⟩:=j.rel.bW I (x3 K);have B:∀(f:Option Code) (x:X),u5 x=f->Q (.bool (DZ x)) (s.set d (.bW (.loop { p with st:=E5 x,pM:=u5 x })))->∃v k,(Instr.endRound l.c f).run P w2=.ok v k/\Post C b w Q (.returned v) k:=by
  intro f x E hq;refine⟨_,_,run_endRound f j1,.bool (DZ x),.bool f.isNone,_,S,rfl,oA.full i (((g.trans (y.sP g.ag)).trans j).trans (Ext.sP (zc j.rel I (x3 K) (o':=.loop { p with st:=E5 x,pM:=u5 x }) (x:=.loop { R with state:=if f.isNone then .ready else .done,pending:=f }) ⟨{ R with state:=if f.isNone then .ready else .done,pending:=f },zM (j.rel.loc I) _,j2,a8,a9,a',ba,?_,E.symm⟩) j.ag)),?_,hq⟩
  .subst E;cases x<;>rfl
  .subst E;cases x<;>exact .bool _
 cases x with
 |norm=>exact B none .norm rfl k_
 |ret=>exact B (some .ret) .ret rfl k_
 |exit id=>exact B (some (.exit id)) (.exit id) rfl k_
variable{i:Operand}
def K6{B n:Nat}{Q:b5}{t:Array Tmp}{assign body:Code}{y:Fr->V}{first captured:au}(a9:sC G n i=true)(hg:gQ i=some y)(hy:y j=.func A first captured)
 (h:dD P G (.fn A) (first++([.jZ b.ag]++captured)) (b.push (.bW (.loop ⟨n,j,t.toList,assign,body,0,aN⟩))) λ_ m=>∃L,m.qn b.ag=some L/\L.st≠1/\∃x,L.pM=u5 x/\Q x j (m.set b.ag (.bW (.loop { L with st:=3 })))):
 iR P G B n false (.rangeFunc i t assign body) j b Q:=by
 intro C a w ro h1 u z E R b2 ac;cases h1 rfl;refine wpIn_rangeFunc ?_;intro Y _;have N:=Ji E R (by rw[u];exact Ev a9) hg;rw[hy]at N;generalize a3:a.eval i=b1 at N
 cases N with
 |func _ ap ar=>
 rename_i r q;have S:=ajS z (.deferred (some []));have U:(w.alloc (.deferred (some []))).heap.size=w.heap.size+1:=by show(w.heap.push _).size=_;simp
 let g:Loop:= { state:=.ready,pending:=none,fn:=Y,tmps:=a.tmps,params:=t,assign:=assign,body:=body,defers:=w.heap.size };have hn:C b.ag=none:=(z.top (aJ _)).1;have o:=aL.wz (l:=⟨(w.alloc (.deferred (some []))).heap.size,0,0⟩) hn;have J:Ext C b (w.alloc (.deferred (some []))) (C.add b.ag ⟨(w.alloc (.deferred (some []))).heap.size,0,0⟩) (b.push (.bW (.loop ⟨n,j,t.toList,assign,body,0,aN⟩))) ((w.alloc (.deferred (some []))).alloc (.loop g)):=H7 S.rel ⟨g,F5 _,E.mono o,u,rfl,rfl,rfl,rfl,rfl⟩
 have I:=S.trans J;have s:=aL.uK C b.ag ⟨(w.alloc (.deferred (some []))).heap.size,0,0⟩;generalize ad:C.add b.ag ⟨(w.alloc (.deferred (some []))).heap.size,0,0⟩=D at I J o s
 rw[U]at s;have ae:bu D (first++([.jZ b.ag]++captured)) (r++([.func (.yield (w.heap.size+1)) #[] #[]]++q)):=(ap.mono o).append ((bu.cons (.jZ s) .nil).append (ar.mono o))
 obtain⟨⟨fn,c,a0,al,a8⟩,am⟩:=h;refine⟨w.heap.size+1,[{ target:=.collected w.heap.size,args:=#[] }],(w.alloc (.deferred (some []))).alloc (.loop g), { target:=.fn (.func A) ⟨q⟩,args:=⟨r++[.func (.yield (w.heap.size+1)) #[] #[]]⟩ },(w.alloc (.deferred (some []))).alloc (.loop g),A,⟨r++([.func (.yield (w.heap.size+1)) #[] #[]]++q)⟩,(w.alloc (.deferred (some []))).alloc (.loop g),run_enterLoop_outer _ _ _ _ _,?_,λ_ _=>trivial,?_,λh=>by simp[fw,Fence.wide]at h,?_⟩
 .simp[resolve,Act.eval,Deferred.ofValue];have:a.eval i=.func (.func A) ⟨r⟩ ⟨q⟩:=a3;simp[Act.eval]at this;simp[this]
 .simp only[invoke];rw[J0 a0 al a8];congr 2;simp
 .refine MF ((am _ _ _ J.rel (R.mono o) ae).mono ?_);rintro e k ⟨v,v',m,p,rfl,f,k2,L,X,bv,x,kp,bo⟩;have K:p b.ag=some ⟨w.heap.size+1,0,0⟩:=f.le _ _ s;obtain⟨_,d,j1,j2,bc,bd,be,bi,bj,W⟩:=f.rel.bW K (x3 X);have a7:d.state≠ .busy:=by
   rw[bj];intro e;apply bv;have key:∀st,T4 st=.busy->st=1:=by
    intro st h
    match st,h with
    |0,h=>cases h
    |1,_=>rfl
    |2,h=>cases h
    |n+3,h=>cases h
   exact key _ e
  have T:Ext p m k p (m.set b.ag (.bW (.loop { L with st:=3 }))) (ji k (w.heap.size+1) (.loop { d with state:=.exhausted })):=zc f.rel K (x3 X) ⟨{ d with state:=.exhausted },zM (f.rel.loc K) _,j2,bc,bd,be,bi,rfl,W⟩
  have a1:=(I.trans f).trans T;have a5:Marks p (ji k (w.heap.size+1) (.loop { d with state:=.exhausted })) w.heap.size [{ target:=.collected w.heap.size,args:=#[] }]:=by
   have Z:Marks D ((w.alloc (.deferred (some []))).alloc (.loop g)) w.heap.size [{ target:=.collected w.heap.size,args:=#[] }]:=by
    refine⟨⟨w.heap.size,rfl,aJ _,?_,?_,aI⟩,trivial⟩
    .show((w.heap.push (.deferred (some []))).push (.loop g))[w.heap.size]? =_;simp[Array.getElem?_push]
    .intro b0 l e;rw[<-ad]at e;rw[aL.add_get]at e;split at e
     .cases e;rw[U];simp
     .have:=z.loc e;omega
   exact(Z.ext (f.sP (aJ _))).ext (T.sP (aJ _))
  have M:k8 B n C b w a Q x.exit' { a with defers:=[{ target:=.collected w.heap.size,args:=#[] }]++a.defers } (ji k (w.heap.size+1) (.loop { d with state:=.exhausted })):=⟨x,j,_,p,_,rfl,a1.sP ac,(E.mono I.le).mono f.le,u,rfl,a5,bo⟩
  have aw:∀O:Option Code,O=u5 x->(match O with
   |none=>k8 B n C b w a Q .normal { a with defers:=[{ target:=.collected w.heap.size,args:=#[] }]++a.defers } (ji k (w.heap.size+1) (.loop { d with state:=.exhausted }))
   |some c=>c.wpIn (fw none) 0 P (k8 B n C b w a Q) { a with defers:=[{ target:=.collected w.heap.size,args:=#[] }]++a.defers } (ji k (w.heap.size+1) (.loop { d with state:=.exhausted }))):=by
   intro O hj;subst hj;cases x with
   |norm=>exact M
   |exit id=>exact wpIn_exit M
   |ret=>exact wpIn_ret M
  exact⟨d.pending,_,run_endLoop j1 a7,aw _ (W.trans kp)⟩
end
section
variable {P:Program}{N:fh}{T:c6}{G:Nat}{O:kW}
def qG(P:Program)(G:Nat)(cf:kW):Prop:=∀ {t args H v a},cf t args H=some (v,a)->dD P G t args H λc b=>c=v/\b=a
def SB:qG P G sB:=λh=>by cases h
def Ap(P:Program)(G:Nat)(run:xp):Prop:=∀ {B n:Nat}{rd:Bool}{c:Code}{F:Fr}{H:ah}{x:X}{a:Fr}{b:ah},codeOk G n c=true->run n rd c F H=.ok x a b->
 iR P G B n rd c F H λf d e=>f=x/\d=a/\e=b
variable{j:Fr}{b:ah}
theorem andThen_ok{r:jl}{k:Fr->ah->jl}{x:X}(h:andThen r k=.ok x j b):(∃a c,r=.ok .norm a c/\k a c=.ok x j b)\/(r=.ok x j b/\x≠ .norm):=by
 cases r with
 |fail=>cases h
 |ok y a c=>
  cases y with
  |norm=>exact .inl ⟨a,c,rfl,h⟩
  |exit id=>cases h;grind
  |ret=>cases h;grind
variable{I:ah}{s:cm}
def au1{cf:kW}(y:qG P G cf){f:Step}{a:Fr}(h:exec cf f j b=some (a,I))(d:s a I):kq P G f j b s:=by
 cases e:f.want j with
 |none=>unfold exec at h;rw[e]at h;cases h
 |some l=>
  cases l with
  |false=>unfold exec at h;rw[e]at h;cases h;exact .inl ⟨e,d⟩
  |true=>
   refine .inr ⟨e,?_⟩;have B:=h;unfold exec at h;rw[e]at h;cases k:f.cop with
   |call i g=>
    have o:aq (g (vals i j)) (λc=>aq (cf c.1 c.2 b) λr=>some (put j f.dst r.1,r.2))=some (a,I):=by simpa [k]using h
    obtain⟨⟨t,args⟩,p,q⟩:=aB.1 o;obtain⟨⟨v,z⟩,u,w⟩:=aB.1 q;cases w;exact⟨t,args,p,(y u).mono λC A ⟨m,n⟩=>by rw[m,n];exact d⟩
   |od x=>simp[k]at h
   |bad=>simp[k]at h
   |pu i g=>exact⟨a,I,by unfold exec;simp_all,d⟩
   |rd i g=>exact⟨a,I,by unfold exec;simp_all,d⟩
   |hG i g=>exact⟨a,I,by unfold exec;simp_all,d⟩
def atQ{cf:kW}(g:qG P G cf):∀ {l:List dW}{F a:Fr}{H b:ah}{Q:cm},vj cf l F H=some (a,b)->Q a b->g_ P G l F H Q:=by
 intro l;induction l with
 |nil=>intro F a H b Q h c;cases h;exact c
 |cons i l f=>
  intro F a H b Q h c;cases i with
  |ex s=>obtain⟨⟨j,k⟩,d,e⟩:=aB.1 (show aq (exec cf s F H) (λr=>vj cf l r.1 r.2)=some (a,b)from h);exact au1 g d (f e c)
  |re s=>obtain⟨d,e⟩:=dA.1 (show aX (again s F H) (vj cf l F H)=some (a,b)from h);exact⟨VC d,f e c⟩
variable{A:FuncId}
theorem WW(hT:dH P T)(b_:kH P N){run:xp}(n:Ap P G run){args:au}{v:V}(h:Gt G N T run A args b=some (v,I)):dD P G (.fn A) args b λo a=>o=v/\a=I:=by
 obtain⟨fn,m,h⟩:=aB.1 (show aq (N.get aN A) _=some (v,I)from h);obtain⟨c,j,h⟩:=aB.1 h;obtain⟨f,h⟩:=dA.1 h;have g:=f;rw[de]at g;have k:codeOk G fn.ntmps c=true:=by have:=g.1;unfold uU at this;rw[de,de]at this;exact this.2.1
 cases d:run fn.ntmps false c (mV args 0 .nil) b with
 |fail=>rw[d]at h;cases h
 |ok x q r=>
  rw[d]at h;refine Gu hT b_ m j f ((n k d).mono ?_);rintro p e a ⟨rfl,rfl,rfl⟩;cases p with
  |exit id=>cases h
  |norm=>
   obtain⟨l,hl,i⟩:=aB.1 (show aq (tS T e a fn.results.toList) (λl=>some (qw l,a))=some (v,I)from h)
   grind
  |ret=>
   obtain⟨l,hl,i⟩:=aB.1 (show aq (tS T e a fn.results.toList) (λl=>some (qw l,a))=some (v,I)from h)
   grind
theorem Mz(hT:dH P T)(b_:kH P N)(e:qG P G O){run:xp}(g:Ap P G run):qG P G (yU G N T O run):=by
 intro t args H v d h
 have a:Option.casesOn (motive:=λ_=>Option (V×ah)) (O t args H)
  (qW.casesOn (motive:=λ_=>Option (V×ah)) t (λf=>Gt G N T run f args H) (λ_=>aN)) some=some (v,d):=h
 cases c:O t args H with
 |some r=>rw[c]at a;cases a;exact e c
 |none=>
  rw[c]at a;cases t with
  |fn f=>grind [WW]
  |jZ b=>cases a
theorem atO(hT:dH P T)(b_:kH P N)(W:qG P G O)(fI:P.follows .mixedOrders=true):∀a,Ap P G (run G N T O a):=by
 intro a;induction a using j3 with
 |_ a R=>
  cases a with
  |zero=>intro B n rd c F H x g j _ h;cases h
  |succ a=>
   have o:Ap P G (run G N T O a):=R a aa;intro B n rd c F H x g j v h;have X:qG P G (yU G N T O (run G N T O a)):=Mz hT b_ W o;cases c with
   |skip=>cases h;grind [F1]
   |region id S L=>
    have b:Tn (aq (plan N T S.toList L) λl=>vj (yU G N T O (run G N T O a)) l F H)=.ok x g j:=h;cases I:aq (plan N T S.toList L) (λl=>vj (yU G N T O (run G N T O a)) l F H)with
    |none=>rw[I]at b;cases b
    |some q=>rw[I]at b;cases b;obtain⟨l,Z,E⟩:=aB.1 I;exact FX hT b_ fI v Z (atQ X E ⟨rfl,rfl,rfl⟩)
   |seq s u=>
    have k:and (codeOk G n s) (codeOk G n u)=true:=v;rw[de]at k;refine F0 ?_;rcases andThen_ok (show andThen (run G N T O a n rd s F H) (run G N T O a n rd u)=.ok x g j from h)with⟨w,A,p,d⟩|⟨p,d⟩
    .refine(o k.1 p).mono ?_;rintro r z C ⟨rfl,rfl,rfl⟩;exact o k.2 d
    .refine(o k.1 p).mono ?_;rintro r z C ⟨rfl,rfl,rfl⟩;cases r with
     |norm=>exact absurd rfl d
     |exit id=>exact⟨rfl,rfl,rfl⟩
     |ret=>exact⟨rfl,rfl,rfl⟩
   |cond y s u=>
    have k:and (sC G n y) (and (codeOk G n s) (codeOk G n u))=true:=v;rw[de,de]at k;have b:JZ (run G N T O a n rd) y s u F H=.ok x g j:=h;unfold JZ at b;cases K:gQ y with
    |none=>rw[K]at b;cases b
    |some f=>
     rw[K]at b;have d:(match f F with|.bool t=>Bool.casesOn (motive:=λ_=>jl) t (run G N T O a n rd u F H) (run G N T O a n rd s F H)|_=>.fail)=.ok x g j:=b;cases M:f F<;>rw[M]at d<;>first|(cases d;done)|skip
     rename_i t;refine At k.1 K M ?_;cases t with
     |true=>exact o k.2.1 d
     |false=>exact o k.2.2 d
   |block id c=>
    have b:Rp id (run G N T O a n rd c F H)=.ok x g j:=h;have D:codeOk G n c=true:=v;refine FT ?_;cases J:run G N T O a n rd c F H with
    |fail=>rw[J]at b;cases b
    |ok y w A=>
     rw[J]at b;refine(o D J).mono ?_;rintro r z C ⟨rfl,rfl,rfl⟩;cases r with
     |norm=>cases b;exact⟨rfl,rfl,rfl⟩
     |ret=>cases b;exact⟨rfl,rfl,rfl⟩
     |exit i=>
      have d:Bool.casesOn (motive:=λ_=>jl) (bt i id) (.ok (.exit i) z C) (.ok .norm z C)=jl.ok x g j:=b;show if i=id then _ else _
      by_cases Y:i=id
      .simp_all
      .rw[mo.2 (λe=>Y ((beq_eq _ _).1 e))]at d
       grind
   |loop c=>
    have D:codeOk G n c=true:=v;refine FW (λm w A=>m<=a+1/\run G N T O m n rd (.loop c) w A=.ok x g j) ?_ (k:=a+1) ⟨aJ _,h⟩;rintro m w A ⟨hm,E⟩;cases m with
    |zero=>cases E
    |succ m=>
     have Q:Ap P G (run G N T O m):=R m aa;rcases andThen_ok (show andThen (run G N T O m n rd c w A) (run G N T O m n rd (.loop c))=.ok x g j from E)with⟨z,C,p,d⟩|⟨p,d⟩
     .refine(Q D p).mono ?_;rintro r U V ⟨rfl,rfl,rfl⟩;exact⟨m,aa,aa,d⟩
     .refine(Q D p).mono ?_;rintro r U V ⟨rfl,rfl,rfl⟩;cases r with
      |norm=>exact absurd rfl d
      |exit id=>exact⟨rfl,rfl,rfl⟩
      |ret=>exact⟨rfl,rfl,rfl⟩
   |rangeFunc _ _ _ _=>cases h
   |exit id=>cases h;grind [FU]
   |label l=>cases h;grind [FV]
   |ret=>cases h;grind [FY]
   |scope c=>
    cases rd with
    |true=>cases h
    |false=>exact FZ (o (show codeOk G n c=true from v) (show run G N T O a n false c F H=.ok x g j from h))
   |goto _=>cases h
   |refuse _=>cases h
def MD(hT:dH P T)(b_:kH P N)(b:qG P G O)(fI:P.follows .mixedOrders=true)(a:Nat):qG P G (Gs G N T O a):=Mz hT b_ b (atO hT b_ b fI a)
end
variable{f:Type}
theorem avC:∀(l:List f) (k:Nat) (t:aY (Option f)) (i:Nat),(yq l k t).get none i=if k<=i/\i<k+af l then l[i-k]? else t.get none i:=by
 intro l;induction l with
 |nil=>intro k t i;rw[ao aI];rfl
 |cons a l b=>
  intro k t i;show(yq l (k+1) (t.set none k (some a))).get none i=_;rw[b,aY.aT]
  grind
variable{a:Nat}
theorem Un{l:List f}{x:f}(h:(yq l 0 .nil).get none a=some x):l[a]? =some x:=by grind [avC,aY.get_nil]
def aks(P:Program):kH P (QM P):=by intro f fn h;have:=Un (show(yq P.funcs.toList 0 .nil).get none f=some fn from h);simpa using this
theorem avX(P:Program){a:TypeId->Option (List TypeDesc)}(d:∀t ds,a t=some ds->FO P t ds):dH P (Uv P a):=by
 refine⟨?_,d⟩;intro t i h;have b:=Un (show(yq P.types.toList 0 .nil).get none t=some i from h);have c:P.types[t]? =some i:=by simpa using b
 have e:t<P.types.size:=(Array.getElem?_eq_some_iff.1 c).1;unfold Tables.info?
 grind
def aL.view(C:aL)(E:Nat->Nat)(k:Nat):aL:=⟨λb=>if b<k then C (E b)else none,C.im⟩
variable{o:aL}{d:Nat}
theorem aL.UH{E:Nat->Nat}:o.view E a d=if d<a then o (E d)else none:=rfl
variable{T:Loc}
theorem aL.o9{E:Nat->Nat}(h:o.view E a d=some T):d<a/\o (E d)=some T:=by grind [aL.UH]
theorem aL.vB{E:Nat->Nat}(b:d<a)(h:o (E d)=some T):o.view E a d=some T:=by simp_all [aL.UH,ay]
mutual
inductive iE (E:Nat->Nat) (k:Nat):V->V->Prop
 |bool (b:Bool):iE E k (.bool b) (.bool b)
 |int (i:IntKind) (n:Int):iE E k (.int i n) (.int i n)
 |str (s:List UInt8):iE E k (.str s) (.str s)
 |ptr {b:Nat} (o:Nat) (h:b<k):iE E k (.ptr (E b) o) (.ptr b o)
 |jV:iE E k .jV .jV
 |slice {b:Nat} (o len:Nat) (cap:Cap) (h:b<k):iE E k (.slice (E b) o len cap) (.slice b o len cap)
 |auv {b:Nat} (o len:Nat) (cap:Cap) (h:b<k):iE E k (.slice (E b) o len cap) (.slice b o len .oY)
 |aA:iE E k .aA .aA
 |emp:iE E k .emp .emp
 |map {b:Nat} (h:b<k):iE E k (.map (E b)) (.map b)
 |lf:iE E k .lf .lf
 |func (f:FuncId) {xs ys xs' ys':List V} (h1:k7 E k xs xs') (h2:k7 E k ys ys'):iE E k (.func f xs ys) (.func f xs' ys')
 |mc:iE E k .mc .mc
 |me:iE E k .me .me
 |agg {xs xs':List V} (h:k7 E k xs xs'):iE E k (.agg xs) (.agg xs')
 |aH {xs xs':List V} (h:k7 E k xs xs'):iE E k (.aH xs) (.aH xs')
 |any (v:V):iE E k v .any
 |cell {v:V} (h:v.one=true):iE E k v .cell
 |row (n:Nat) {cs cs':List V} (h:k7 E k cs cs'):iE E k (.row n cs) (.row n cs')
 |gK:iE E k .aA (.row 0 [])
 |EO:iE E k .emp (.row 0 [])
 |EN:iE E k .ie (.row 0 [])
 |dY (j:Nat) {cs cs':List V} (h:k7 E k cs cs'):iE E k (.dY cs j) (.dY cs' j)
 |ie:iE E k .ie .ie
inductive k7 (E:Nat->Nat) (k:Nat):List V->List V->Prop
 |nil:k7 E k [] []
 |cons {v v':V}{vs vs':List V} (h:iE E k v v') (h':k7 E k vs vs'):k7 E k (v::vs) (v'::vs')
end
mutual
def aP.view{C:aL}{E:Nat->Nat}{k:Nat}:∀ {v v2:V}{v':Value},iE E k v v2->aP C v v'->aP (C.view E k) v2 v'
 |_,_,_,.bool b,.bool _=>.bool b
 |_,_,_,.int i n,.int _ _=>.int i n
 |_,_,_,.str s,.str _=>.str s
 |_,_,_,.ptr o h,.ptr e=>.ptr (aL.vB h e)
 |_,_,_,.jV,.jV=>.jV
 |_,_,_,.slice o len cap h,.slice e h1 h2=>.slice (aL.vB h e) h1 h2
 |_,_,_,.auv o len cap h,.slice e h1 _=>.slice (aL.vB h e) h1 trivial
 |_,_,_,.aA,.aA=>.aA
 |_,_,_,.emp,.emp a c=>.emp a c
 |_,_,_,.map h,.map e=>.map (aL.vB h e)
 |_,_,_,.lf,.lf=>.lf
 |_,_,_,.func f h1 h2,.func _ g1 g2=>.func f (bu.view h1 g1) (bu.view h2 g2)
 |_,_,_,.mc,.mc=>.mc
 |_,_,_,.me,.me=>.me
 |_,_,_,.agg h,.agg g=>.agg (bu.view h g)
 |_,_,_,.aH h,.aH g=>.aH (bu.view h g)
 |_,_,v',.any _,_=>.any v'
 |_,_,_,.cell h,g=>.cell (SI g h)
 |_,_,_,.row _ .nil,.fQ a c h=>.fQ a c h
 |_,_,_,.row _ h,.row e g1 g2 g3=>.row e (bu.view h g1) g2 g3
 |_,_,_,.gK,.aA=>.fQ none 0 (λ_=>rfl)
 |_,_,_,.EO,.emp a c=>.fQ (some a) c (λh=>by cases h)
 |_,_,_,.EN,.ie a=>.fQ a 0 (λ_=>rfl)
 |_,_,_,.dY _ h,.dY e g1 g2=>.dY e (bu.view h g1) g2
 |_,_,_,.ie,.ie a=>.ie a
def bu.view{C:aL}{E:Nat->Nat}{k:Nat}:∀ {a b:List V}{c:List Value},k7 E k a b->bu C a c->bu (C.view E k) b c
 |_,_,_,.nil,.nil=>.nil
 |_,_,_,.cons h h',.cons g g'=>.cons (aP.view h g) (bu.view h' g')
end
section
variable {P:Program}{G B n:Nat}{rd:Bool}{c:Code}{F FD:Fr}{H H2:ah}{Q:b5}
end
section
variable {G:Nat}{E:Nat->Nat}{C D:aL}{H H2 H':ah}{w w':World}
end
section
variable {P:Program}{G:Nat}
end
def vC(n:Nat):V->V->Bool:=
 Nat.rec (motive:=λ_=>V->V->Bool) (λ_ _=>false) (λ_ c a b=>match a with
  |.any=>(match b with|.any=>true|_=>false)
  |.cell=>(match b with|.cell=>true|_=>false)
  |.func f x y=>(match b with|.func g z t=>and (bt f g) (and (gq c x z) (gq c y t))|_=>false)
  |.agg x=>(match b with|.agg y=>gq c x y|_=>false)
  |.aH x=>(match b with|.aH y=>gq c x y|_=>false)
  |a=>uf 1 a b) n
theorem UK:∀n a b,vC n a b=true->a=b:=by
 intro n;induction n with
 |zero=>intro a b h;cases h
 |succ n c=>
  intro a b h;cases a<;>first|exact KC 1 _ _ h|skip
  case any=>cases b<;>first|rfl|cases h
  case cell=>cases b<;>first|rfl|cases h
  case func f x y=>
   cases b<;>first|(cases h;done)|skip
   have d:and (bt _ _) (and (gq (vC n) _ _) (gq (vC n) _ _))=true:=h;rw[de,de,beq_eq]at d
   grind [ri]
  case agg x=>
   cases b<;>first|(cases h;done)|skip
   rw[ri c _ _ h]
  case aH x=>
   cases b<;>first|(cases h;done)|skip
   rw[ri c _ _ h]
def Jf(a b:cq):Bool:=match a with
 |some x=>(match b with|some y=>bt x y|_=>false)
 |.none=>(match b with|.none=>true|_=>false)
variable{x:cq}
theorem arP{a:cq}(h:Jf a x=true):a=x:=by
 cases a<;>cases x<;>first|rfl|(cases h;done)|skip
 exact congrArg some ((beq_eq _ _).1 h)
variable{g:av}
theorem arc{a:av}(h:gq bt a g=true):a=g:=ri (λ_ _ h=>(beq_eq _ _).1 h) _ _ h
abbrev y8:Nat:=12
def SU(a b:p8):Bool:=match a with
 |.map e=>(match b with|.map f=>gq (λx y=>and (vC y8 x.1 y.1) (vC y8 x.2 y.2)) e f|_=>false)
 |.iter m s l c t=>(match b with|.iter h i g d j=>and (and (bt m h) (bt s i)) (and (gq bt l g) (and (Jf c d) (bt t j)))|_=>false)
 |.ro _=>false
 |.loop _=>false
theorem arZ{a b:p8}(h:SU a b=true):a=b:=by
 cases a<;>cases b<;>first|(cases h;done)|skip
 case map.map k n=>
  refine congrArg p8.map (ri (λx y h=>?_) _ _ h);have d:and (vC y8 x.1 y.1) (vC y8 x.2 y.2)=true:=h;rw[de]at d
  grind [Prod.ext,UK]
 case iter.iter m s l c t g i f e j=>
  have d:and (and (bt m g) (bt s i)) (and (gq bt l f) (and (Jf c e) (bt t j)))=true:=h;rw[de,de,de,de,beq_eq,beq_eq,beq_eq]at d
  grind [arc,arP]
def xz(a b:dU):Bool:=match a with
 |.none=>(match b with|.none=>true|_=>false)
 |.cells c g=>(match b with|.cells d e=>and (bt g e) (gq (vC y8) c d)|_=>false)
 |.bV x y=>(match b with|.bV h i=>and (bt x h) (bt y i)|_=>false)
 |.bW o=>(match b with|.bW f=>SU o f|_=>false)
theorem Ga{a b:dU}(h:xz a b=true):a=b:=by
 cases a<;>cases b<;>first|rfl|(cases h;done)|skip
 case cells.cells d g e f=>
  have c:and (bt g f) (gq (vC y8) d e)=true:=h;rw[de,beq_eq]at c
  grind [ri,UK]
 case bV.bV x y i j=>have c:and (bt x i) (bt y j)=true:=h;simp_all
 case bW.bW o k=>exact congrArg dU.bW (arZ h)
section
mutual
inductive bS (H H2:ah):V->V->Prop
 |same (v:V):bS H H2 v v
 |any (v:V):bS H H2 v .any
 |row {b o n m:Nat}{cap:Cap}{cs AK:List V} (h:H.dz b o m=some cs) (h0:0<m) (h1:H2.get b=.none) (h2:dn H H2 cs AK):bS H H2 (.slice b o n cap) (.row n AK)
 |fQ (b o:Nat) (cap:Cap):bS H H2 (.slice b o 0 cap) (.row 0 [])
 |gK:bS H H2 .aA (.row 0 [])
 |EO:bS H H2 .emp (.row 0 [])
 |EN:bS H H2 .ie (.row 0 [])
 |agg {xs ys:List V} (h:dn H H2 xs ys):bS H H2 (.agg xs) (.agg ys)
 |aH {xs ys:List V} (h:dn H H2 xs ys):bS H H2 (.aH xs) (.aH ys)
inductive dn (H H2:ah):List V->List V->Prop
 |nil:dn H H2 [] []
 |cons {x y:V}{xs ys:List V} (h:bS H H2 x y) (h':dn H H2 xs ys):dn H H2 (x::xs) (y::ys)
end
variable{b:ah}{I:ah}
def bS.mm{v:V}:bS b I v v:=.same v
variable{l:V}
def dn.f1{a:V}(c:bS b I a l):dn b I [a] [l]:=.cons c .nil
def dn.f2{a c d:V}(e:bS b I a c)(f:bS b I l d):dn b I [a,l] [c,d]:=.cons e (.f1 f)
def dn.f3{a c d e f:V}(g:bS b I a d)(h:bS b I l e)(i:bS b I c f):dn b I [a,l,c] [d,e,f]:=.cons g (.f2 h i)
def dn.f4{a c d e f g h:V}(i:bS b I a e)(j:bS b I l f)(k:bS b I c g)(m:bS b I d h):dn b I [a,l,c,d] [e,f,g,h]:=.cons i (.f3 j k m)
def dn.f5{a c d e f g h i j:V}(k:bS b I a f)(m:bS b I l g)(n:bS b I c h)(o:bS b I d i)(p:bS b I e j):dn b I [a,l,c,d,e] [f,g,h,i,j]:=.cons k (.f4 m n o p)
theorem dn.refl:∀l:au,dn b I l l
 |[]=>.nil
 |v::l=>.cons (.same v) (dn.refl l)
def w8(C:aL)(H H2:ah)(w:World)(c:Nat):Prop:=∃b l,C b=some l/\l.c=c/\H.get b≠ .none/\H2.get b=.none/\∃a t d,w.heap[c]? =some (.cells a t d)
open Classical in
def aL.eA(C:aL)(H H2:ah)(w:World):aL:=⟨C.f,λc=>if w8 C H H2 w c then w.heap[c]? else C.im c⟩
variable{r:World}
def Ip(h:w8 o b I r a):(o.eA b I r).im a=r.heap[a]? :=ay h
theorem Iq(h:¬w8 o b I r a):(o.eA b I r).im a=o.im a:=ao h
section
variable {P:Program}{C:aL}{H H2:ah}{w:World}
theorem xR(a:Rel C H w):C.le (C.eA H H2 w):=by
 refine⟨λ_ _ e=>e,λc x e=>?_⟩;by_cases h:w8 C H H2 w c
 .rw[Ip h];exact(a.gf e).obj
 grind [Iq]
structure Cut (B:Nat) (H H2:ah):Prop where
 sub:∀y,H2.get y=H.get y\/(B<=y/\H2.get y=.none)
 ag:H2.ag=H.ag
 bV:∀y y' cs cs' g,g≠0->H.get y=.cells cs g->H.get y'=.cells cs' g->H2.get y=.none->H2.get y'=.none
def Cut.old{B:Nat}(a:Cut B H H2){y:Nat}(h:H2.get y≠ .none):H2.get y=H.get y:=(a.sub y).resolve_right λe=>h e.2
def Cut.low{B:Nat}(b:Cut B H H2)(h:a<B):H2.get a=H.get a:=(b.sub a).resolve_right λe=>aa
def Rel.cut{B:Nat}(h:Rel C H w)(f:Cut B H H2):Rel (C.eA H H2 w) H2 w:=by
 have I:=xR (H2:=H2) h;have s:∀ {y:Nat}{p:au}{g:Nat},H2.get y=.cells p g->H.get y=.cells p g:=λ{y p g} e=>by rw[<-f.old (y:=y) (by rw[e];simp)];exact e
 have A:∀ {y a b:Nat},H2.get y=.bV a b->H.get y=.bV a b:=λ{y a b} e=>by rw[<-f.old (y:=y) (by rw[e];simp)];exact e
 refine⟨?_,h.room,λj d=>h.len j (s d),?_,?_,h.loc,λj d k=>h.mem (s j) d (A k),λe=>h.n7 (A e),?_,?_,λe=>by rw[f.ag];exact h.n9 (s e)⟩
 .intro b l p g i v j d k u;have hl:H.gr b g=true:=by
   rcases gJ.1 k with e|⟨a,c,L,M⟩
   .exact gJ.2 (.inl e)
   .exact gJ.2 (.inr ⟨a,c,A L,M⟩)
  obtain⟨V,m,n⟩:=h.cell j (s d) hl u;exact⟨V,m,n.mono I⟩
 .intro b F l D j d k u;rcases h.inj j d k u with⟨p,K,g,m,n,r⟩|⟨U,E⟩
  .by_cases q:H2.get b=.none
   .exact .inr ⟨q,f.bV _ _ _ _ _ m n r q⟩
   .have R:H2.get F≠ .none:=λe=>q (f.bV _ _ _ _ _ m r n e)
    exact .inl ⟨p,K,g,m,by rw[f.old q];exact n,by rw[f.old R];exact r⟩
  .refine .inr ⟨?_,?_⟩
   .rcases f.sub b with e|e
    .rw[e];exact U
    .exact e.2
   .rcases f.sub F with e|e
    .rw[e];exact E
    .exact e.2
 .intro b q;rw[f.ag]at q;obtain⟨m,n⟩:=h.top q;refine⟨m,?_⟩;rcases f.sub b with e|e
  .rw[e];exact n
  .exact e.2
 .intro b l o j d;have k:H.get b=.bW o:=by rw[<-f.old (y:=b) (by rw[d];simp)];exact d
  obtain⟨N,O⟩:=h.bW j k;exact⟨N,O.mono I rfl⟩
 .intro c x e;by_cases z:w8 C H H2 w c
  .rw[Ip z]at e;obtain⟨b,l,m,n,r,G,p,t,P,Q⟩:=z;refine⟨e,⟨p,t,P,Option.some.inj (e.symm.trans Q)⟩,?_⟩;intro y D j d;by_cases J:y=b
   .subst J;exact G
   .rcases h.inj j m (d.trans n.symm) J with⟨W,X,g,S,T,bX⟩|⟨_,E⟩
    .exact f.bV _ _ _ _ _ S bX T G
    .exact absurd E r
  .rw[Iq z]at e;refine(h.gf e).keep rfl ?_;intro y D j d;have:=(h.gf e).off y D j d;rcases f.sub y with k|k
   .rw[k];exact this
   .exact k.2
theorem Rel.zb{B:Nat}(h:Rel C H w)(d:Cut B H H2)(q:B<=H.ag):oA B C H w (C.eA H H2 w) H2 w:=by
 refine⟨h.cut d,λ_ e=>e,?_,?_,by rw[d.ag];exact q,λ_ _=>rfl,aJ _,iQ.refl w,?_,λc x e=>(xR h).im c x e,?_,?_⟩
 rotate_left 3
 .intro c x e;by_cases r:w8 C H H2 w c
  .obtain⟨b,l,p,j,y,_⟩:=r
   grind
  grind [Iq]
 .intro b f l t k i _ m o;have n:C f=some t:=m;have s:H.get f=.none:=by
   by_cases a:f=b
   .rw[a];exact i
   .rcases h.inj n k o a with⟨_,_,g,_,_,bX⟩|⟨u,_⟩
    .rw[i]at bX;cases bX
    .exact u
  rcases d.sub f with e|e
  .rw[e];exact s
  .exact e.2
 .intro b l p j;have v:C b=some l:=j
  grind
 .intro b a _ _;exact d.low a
 .intro b l a _ e;exact⟨by rw[d.low a];exact e,rfl⟩
mutual
def aP.eA{B:Nat}(hr:Rel C H w)(hc:Cut B H H2):∀ {v v2:V}{v':Value},bS H H2 v v2->aP C v v'->aP (C.eA H H2 w) v2 v'
 |_,_,_,.same _,r=>r.mono (xR hr)
 |_,_,v',.any _,_=>.any v'
 |_,_,_,.fQ _ _ _,.slice _ _ _=>.fQ _ _ (λh=>by cases h)
 |_,_,_,.gK,.aA=>.fQ none 0 (λ_=>rfl)
 |_,_,_,.EO,.emp a c=>.fQ (some a) c (λh=>by cases h)
 |_,_,_,.EN,.ie a=>.fQ a 0 (λ_=>rfl)
 |_,_,_,.agg h,.agg g=>.agg (bu.eA hr hc h g)
 |_,_,_,.aH h,.aH g=>.aH (bu.eA hr hc h g)
 |_,_,_,.row (cs:=cs) h h0 h1 h2,.slice (l:=l) hb hl hcap=>by
  obtain⟨vs',e1,e2,Dy⟩:=zA hr hb h;have hlt:0<vs'.length:=aa;have hcell:=Dy 0 _ (c4 hlt);have DW:∃x,w.heap[l.c]? =some x/\∃cs t fr,x=.cells cs t fr:=by
   unfold World.cell? at hcell;cases ho:w.heap[l.c]? with
   |none=>grind
   |some x=>grind
  obtain⟨x,hx,cs0,t,fr,al4⟩:=DW;have hne:H.get _≠ .none:=λe=>by obtain⟨XZ,k1,_⟩:=aB.1 h;obtain⟨g,k2,_⟩:=cells?_some k1;rw[e]at k2;cases k2
  have hg:w8 C H H2 w l.c:=⟨_,l,hb,rfl,hne,h1,cs0,t,fr,by rw[hx,al4]⟩;refine .row (by rw[Ip hg];exact hx) (bu.eA hr hc h2 e2) ?_ hl;intro i v hi w2 c2 azo;have:=Dy i v hi;unfold World.cell? at this⊢
  grind
def bu.eA{B:Nat}(hr:Rel C H w)(hc:Cut B H H2):∀ {a b:List V}{c:List Value},dn H H2 a b->bu C a c->bu (C.eA H H2 w) b c
 |_,_,_,.nil,.nil=>.nil
 |_,_,_,.cons h h',.cons g g'=>.cons (aP.eA hr hc h g) (bu.eA hr hc h' g')
end
end
section
variable {P:Program}{G B n:Nat}{rd:Bool}{c:Code}{F FD:Fr}{H H2:ah}{Q:b5}
def Vi(b:Cut B H H2)(p:∀t,t<n->bS H H2 (F.get V.undef t) (FD.get V.undef t))(h:iR P G B n rd c FD H2 Q):iR P G B n rd c F H Q:=by intro C a w r l f g m o j i;have d:=g.zb b i;refine wpIn_mono (h _ a w r l f d.rel (λt k=>aP.eA g b (p t (by rw[<-f];exact k)) (m t k)) (o.ext j d) j (by rw[b.ag];exact i)) ?_;intro e s u q;exact k8.after (ms:=[]) d rfl trivial q
end
end
def ah.zero(G:Nat):ah:=⟨.nil,G⟩
theorem ah.hL(G b:Nat):(ah.zero G).get b=.none:=aY.get_nil _ _
mutual
inductive bA:V->Prop
 |bool (b:Bool):bA (.bool b)
 |int (k:IntKind) (n:Int):bA (.int k n)
 |str (s:List UInt8):bA (.str s)
 |jV:bA .jV
 |aA:bA .aA
 |emp:bA .emp
 |lf:bA .lf
 |func (f:FuncId) {xs ys:List V} (h1:ct xs) (h2:ct ys):bA (.func f xs ys)
 |mc:bA .mc
 |me:bA .me
 |agg {xs:List V} (h:ct xs):bA (.agg xs)
 |aH {xs:List V} (h:ct xs):bA (.aH xs)
 |any:bA .any
 |cell:bA .cell
 |row (n:Nat) {xs:List V} (h:ct xs):bA (.row n xs)
 |dY (k:Nat) {xs:List V} (h:ct xs):bA (.dY xs k)
 |ie:bA .ie
inductive ct:List V->Prop
 |nil:ct []
 |cons {v:V}{vs:List V} (h:bA v) (h':ct vs):ct (v::vs)
end
variable{p:IntKind}{q:Int}
def bA.ii:bA (.int p q):=.int _ _
def bA.ss{s:aW}:bA (.str s):=.str _
variable{n:Bool}
def bA.bb:bA (.bool n):=.bool _
def ct.f1{a:V}(b:bA a):ct [a]:=.cons b .nil
variable{l:V}
def ct.f2{a:V}(b:bA a)(c:bA l):ct [a,l]:=.cons b (.f1 c)
def ct.f3{a c:V}(b:bA a)(d:bA l)(e:bA c):ct [a,l,c]:=.cons b (.f2 d e)
def ct.f4{a c d:V}(b:bA a)(e:bA l)(f:bA c)(g:bA d):ct [a,l,c,d]:=.cons b (.f3 e f g)
def ct.f5{a c d e:V}(b:bA a)(f:bA l)(g:bA c)(h:bA d)(i:bA e):ct [a,l,c,d,e]:=.cons b (.f4 f g h i)
def ct.iff:∀ {l:au},ct l↔∀v∈l,bA v
 |[]=>⟨λ_ v h=>by simp at h,λ_=>.nil⟩
 |v::l=>⟨λh x hx=>by
   cases h with
   |cons h a=>
    rcases jr.1 hx with rfl|hx
    .exact h
    .exact ct.iff.1 a x hx,λh=>.cons (h v aI) (ct.iff.2 λx hx=>h x (by simp[hx]))⟩
mutual
def aP.free{C D:aL}(hi:∀c x,C.im c=some x->D.im c=some x):∀ {v:V}{v':Value},bA v->aP C v v'->aP D v v'
 |_,_,.bool _,.bool b=>.bool b
 |_,_,.int _ _,.int k n=>.int k n
 |_,_,.str _,.str s=>.str s
 |_,_,.jV,.jV=>.jV
 |_,_,.aA,.aA=>.aA
 |_,_,.emp,.emp a c=>.emp a c
 |_,_,.lf,.lf=>.lf
 |_,_,.func _ h1 h2,.func f g1 g2=>.func f (bu.free hi h1 g1) (bu.free hi h2 g2)
 |_,_,.mc,.mc=>.mc
 |_,_,.me,.me=>.me
 |_,_,.agg h,.agg g=>.agg (bu.free hi h g)
 |_,_,.aH h,.aH g=>.aH (bu.free hi h g)
 |_,v',.any,.any _=>.any v'
 |_,_,.cell,.cell h=>.cell h
 |_,_,.row _ _,.fQ a c h=>.fQ a c h
 |_,_,.row _ h,.row e g1 g2 g3=>.row (hi _ _ e) (bu.free hi h g1) g2 g3
 |_,_,.dY _ h,.dY e g1 g2=>.dY (hi _ _ e) (bu.free hi h g1) g2
 |_,_,.ie,.ie a=>.ie a
def bu.free{C D:aL}(hi:∀c x,C.im c=some x->D.im c=some x):∀ {a:List V}{c:List Value},ct a->bu C a c->bu D a c
 |_,_,.nil,.nil=>.nil
 |_,_,.cons h h',.cons g g'=>.cons (aP.free hi h g) (bu.free hi h' g')
end
section
variable {P:Program}{G:Nat}{C:aL}{H:ah}{w:World}
theorem Rel.zero(a:Rel C H w):Rel (C.view id G) (ah.zero G) w:=by
 have f:∀ {b:Nat}{o:dU},(ah.zero G).get b=o->o=.none:=λ{b o} e=>by grind [ah.hL]
 refine⟨?_,?_,?_,?_,?_,?_,?_,?_,?_,?_,?_⟩
 .grind
 .intro b l i e h;exact a.room (aL.o9 e).2 h
 .grind
 .grind
 .intro b d;refine⟨?_,ah.hL _ _⟩;exact ao (Nat.not_lt.2 (show G<=b from d))
 .intro b l e;exact a.loc (aL.o9 e).2
 .grind
 .grind
 .grind
 .intro c x e;exact(a.gf e).keep rfl λ_ _ _ _=>ah.hL _ _
 grind
variable{A:FuncId}
theorem rB{args:au}{R:V->Prop}(U:ct args)
 (s:dD P G (.fn A) args (ah.zero G) λL m=>∃v,bS m (ah.zero m.ag) L v/\bA v/\R v) (H:ah):
 dD P G (.fn A) args H λv m=>R v/\m=H:=by
 refine⟨s.1,λC w M j hg W=>(s.2 (C.view id G) w M j.zero ?_ (bu.free (C:=C) (D:=C.view id G) (λ_ _ e=>e) U W)).mono ?_⟩
 .intro g ac;obtain⟨a0,e⟩:=hg g ac
  grind [aL.vB]
 .rintro e r ⟨L,v',m,D,rfl,n,ae,v,Z,X,T⟩;have aw:∀y,y<G->m.get y=.none:=by
   intro y hy;cases d:C.view id G y with
   |some l=>exact(n.kO d (ah.hL _ _)).1
   |none=>rw[n.pK hy d (λa b p=>by grind [ah.hL])];exact ah.hL _ _
  have t:Cut G m (ah.zero m.ag):=⟨λy=>by grind [ah.hL,k4],rfl,λ_ _ _ _ _ _ _ _ _=>ah.hL _ _⟩
  have J:=n.rel.cut t;have u:oA G (C.view id G) (ah.zero G) w (D.eA m (ah.zero m.ag) r) (ah.zero m.ag) r:=(n.sP (aJ G)).trans (n.rel.zb t n.ag);have K:=aP.eA n.rel t Z ae;generalize D.eA m (ah.zero m.ag) r=q at J u K
  have B:∀ {k:Nat},k<w.heap.size->r.heap[k]? =w.heap[k]? :=by
   intro k s;by_cases I:∃b l,C.view id G b=some l/\l.c=k
   .obtain⟨b,l,d,rfl⟩:=I;exact(n.kO d (ah.hL _ _)).2
   .exact n.nA s (λb l d p=>I ⟨b,l,d,p⟩)
  have Y:∀k x,q.im k=some x->C.im k=some x\/w.heap.size<=k:=by
   intro k x e;rcases u.oR k x e with h|h|⟨b,l,_,_,h⟩
   .exact .inl h
   .exact .inr h
   .grind [ah.hL]
  have z:C.le ⟨C.f,q.im⟩:=⟨λ_ _ e=>e,u.zw⟩;have ad:Rel ⟨C.f,q.im⟩ H r:=by
   refine⟨?_,λd p=>n.same.free (j.room d p),j.len,j.inj,j.top,λd=>fy (j.loc d) n.size,j.mem,j.n7,?_,?_,j.n9⟩
   .intro b l cs g i x d p N O;obtain⟨x',E,F⟩:=j.cell d p N O;refine⟨x',?_,F.mono z⟩;unfold World.cell? at E⊢
    grind
   .intro b l o d p;obtain⟨E,F⟩:=j.bW d p;exact⟨E,F.mono z (B (j.loc d))⟩
   .intro k x e;have hi:=J.gf e;refine⟨hi.obj,hi.kind,λb l d p=>?_⟩;rcases Y k x e with h|h
    .exact(j.gf h).off b l d p
    .have:=j.loc d;omega
  refine⟨v,v',H,⟨C.f,q.im⟩,rfl,⟨ad,z,λQ S=>absurd (Q.symm.trans S) aI,λ_ _ _=>rfl,aJ _,λh _=>B h,n.size,n.same,λd p=>⟨p,B (j.loc d)⟩,λk x e=>?_⟩,aP.free (C:=q) (D:=⟨C.f,q.im⟩) (λ_ _ e=>e) X K,T,rfl⟩
  grind
end
inductive aS where
 |skip|ret|exit (id:Nat)|c7 (l:List dW)|seq (a b:aS)|cond (x:Fr->V) (a b:aS)|block (id:Nat) (b:aS)|loop (b:aS)
 |om (x:Fr->V) (ps:List Nat) (a b:Code)
 |cut (B n:Nat) (b:aS)
def vg(c:Code):Bool:=Code.rec (motive:=λ_=>Bool) true (λ_ _ _=>true) (λ_ _ a b=>and a b) (λ_ _ _ a b=>and a b) (λ_ _ b=>b) (λ_ b=>b) (λ_ _ _ _ _ _=>false) (λ_=>true) (λ_ _=>false) (λ_=>true) (λ_=>true) true (λ_=>true) c
def comp(N:fh)(T:c6)(c:Code):Option aS:=
 Code.rec (motive:=λ_=>Option aS) (some .skip) (λ_ e d=>aq (plan N T e.toList d) λl=>some (.c7 l)) (λ_ _ a b=>aq a λa=>aq b λb=>some (.seq a b))
  (λx _ _ a b=>aq (gQ x) λx=>aq a λa=>aq b λb=>some (.cond x a b)) (λid _ b=>aq b λb=>some (.block id b)) (λ_ b=>aq b λb=>some (.loop b))
  (λx f a b _ _=>aq (gQ x) λx=>some (.om x f.toList a b)) (λid=>some (.exit id)) (λ_ b=>b) (λ_=>some .skip) (λ_=>aN) (some .ret) (λ_=>aN) c
inductive iC where
 |tmp (t:Nat)|cell (a:Nat) (agg:Bool) (size:Nat)
def C9(T:c6)(l:List ResultVar):Option (List iC):=
 List.rec (motive:=λ_=>Option (List iC)) (some []) (λr _ b=>aq (match r with
  |.tmp t=>some (iC.tmp t)
  |.cell a t=>aq (T.isAgg t) λg=>aq (iZ T t) λs=>some (iC.cell a g s)) λr=>aq b λl=>some (r::l)) l
def tw(G:Nat)(N:fh)(T:c6)(fn:Func):Option (aS×List iC):=aq fn.body λc=>aX (uU G fn c) (aq (comp N T c) λk=>aq (C9 T fn.results.toList) λr=>some (k,r))
def uo(v:V)(p q:Prop):Prop:=match v with
 |.bool true=>p
 |.bool false=>q
 |_=>False
def U9(B n:Nat)(F:Fr)(H:ah)(K:cm):Prop:=∃b a,Cut B H a/\(∀t,t<n->bS H a (F.get V.undef t) (b.get V.undef t))/\K b a
def wp(P:Program)(G:Nat):aS->Fr->ah->(b5)->Prop
 |.skip,F,H,Q=>Q .norm F H
 |.ret,F,H,Q=>Q .ret F H
 |.exit id,F,H,Q=>Q (.exit id) F H
 |.c7 l,F,H,Q=>g_ P G l F H (Q .norm)
 |.seq a b,F,H,Q=>wp P G a F H (gy (λd e=>wp P G b d e Q) Q)
 |.cond x a b,F,H,Q=>uo (x F) (wp P G a F H Q) (wp P G b F H Q)
 |.block id b,F,H,Q=>wp P G b F H (hD id Q)
 |.loop b,F,H,Q=>∃(I:Nat->cm) (k:Nat),I k F H/\∀k F H,I k F H->wp P G b F H (gy (λd e=>∃m,m<k/\I m d e) Q)
 |.om x h a b,F,H,Q=>∃f first captured,x F=.func f first captured/\∀n,codeOk G n a=true->codeOk G n b=true->dD P G (.fn f) (first++([.jZ H.ag]++captured)) (H.push (.bW (.loop ⟨n,F,h,a,b,0,aN⟩))) λ_ c=>∃L,c.qn H.ag=some L/\L.st≠1/\∃x,L.pM=u5 x/\Q x F (c.set H.ag (.bW (.loop { L with st:=3 })))
 |.cut B n b,F,H,Q=>U9 B n F H λg c=>wp P G b g c Q
section
variable {P:Program}{G B n:Nat}{N:fh}{T:c6}
variable{j:Fr}{b:ah}
def Au{rd:Bool}{c:Code}{Q d:b5}(h:∀x j b,Q x j b->d x j b)(o:iR P G B n rd c j b Q):iR P G B n rd c j b d:=λC a w p e f g i k l m=>wpIn_mono (o C a w p e f g i k l m) λ_ _ _=>k8.mono h
def KH(hT:dH P T)(b_:kH P N)(fI:P.follows .mixedOrders=true):∀(rd:Bool) (c:Code) (k:aS),comp N T c=some k->(rd=true->vg c=true)->codeOk G n c=true->∀(F:Fr) (H:ah) (Q:b5),wp P G k F H Q->iR P G B n rd c F H Q:=by
 intro rd c;induction c with
 |skip=>intro k d _ _ F H Q h;cases d;exact F1 h
 |region id O L=>intro k d o j F H Q h;obtain⟨l,M,d⟩:=aB.1 (show aq (plan N T O.toList L) (λl=>some (aS.c7 l))=some k from d);cases d;exact FX hT b_ fI j M h
 |seq a b z A=>
  intro k d o j F H Q h;obtain⟨x,p,d⟩:=aB.1 (show aq (comp N T a) (λx=>aq (comp N T b) λy=>some (aS.seq x y))=some k from d);obtain⟨y,w,d⟩:=aB.1 d;cases d;obtain⟨q,r⟩:=(de _ _).mp (show and (codeOk G n a) (codeOk G n b)=true from j);refine F0 (Au (λe J K g=>?_) (z x p (λe=>((de (vg a) (vg b)).mp (o e)).1) q F H _ h));cases e with
  |norm=>exact A y w (λe=>((de (vg a) (vg b)).mp (o e)).2) r J K Q g
  |ret=>exact g
  |exit i=>exact g
 |cond x a b z A=>
  intro k d o j F H Q h;obtain⟨f,C,d⟩:=aB.1 (show aq (gQ x) (λf=>aq (comp N T a) λx=>aq (comp N T b) λy=>some (aS.cond f x y))=some k from d);obtain⟨E,p,d⟩:=aB.1 d;obtain⟨y,w,d⟩:=aB.1 d;cases d;obtain⟨u,v⟩:=(de _ _).mp (show and (sC G n x) (and (codeOk G n a) (codeOk G n b))=true from j);obtain⟨q,r⟩:=(de _ _).mp v;have s:uo (f F) (wp P G E F H Q) (wp P G y F H Q):=h;unfold uo at s;have D:=λe=>(de (vg a) (vg b)).mp (o e)
  split at s
  .rename_i e;exact At u C e (z E p (λe=>(D e).1) q F H Q s)
  .rename_i e;exact At u C e (A y w (λe=>(D e).2) r F H Q s)
  .exact s.elim
 |block id b t=>intro k d o j F H Q h;obtain⟨x,p,d⟩:=aB.1 (show aq (comp N T b) (λx=>some (aS.block id x))=some k from d);cases d;exact FT (t x p o j F H _ h)
 |loop b t=>intro k d o j F H Q h;obtain⟨x,p,d⟩:=aB.1 (show aq (comp N T b) (λx=>some (aS.loop x))=some k from d);cases d;obtain⟨I,m,q,r⟩:=h;exact FW I (λm F H hi=>t x p o j F H _ (r m F H hi)) q
 |rangeFunc g R a b _ _=>
  intro k d o j F H Q h;obtain⟨x,p,d⟩:=aB.1 (show aq (gQ g) (λx=>some (aS.om x R.toList a b))=some k from d);cases d;obtain⟨u,v⟩:=(de _ _).mp (show and (sC G n g) (and (codeOk G n a) (codeOk G n b))=true from j);obtain⟨q,r⟩:=(de _ _).mp v;obtain⟨f,first,captured,e,h⟩:=h
  cases rd with
  |true=>cases o rfl
  |false=>exact K6 u p e (h n q r)
 |exit id=>intro k d _ _ F H Q h;cases d;exact FU h
 |scope b t=>
  intro k d o j F H Q h;cases rd with
  |true=>cases o rfl
  |false=>exact FZ (t k d (λe=>by cases e) j F H Q h)
 |label l=>intro k d _ _ F H Q h;cases d;exact FV h
 |goto l=>intro k d;cases d
 |ret=>intro k d _ _ F H Q h;cases d;exact FY h
 |refuse l=>intro k d;cases d
def m4(F:Fr)(H:ah)(l:List iC):Option au:=
 List.rec (motive:=λ_=>Option au) (some []) (λr _ b=>aq (match r with
  |.tmp t=>some (F.get V.undef t)
  |.cell a g s=>jd g s [F.get V.undef a] H) λv=>aq b λl=>some (v::l)) l
def EI:∀ {l:List ResultVar}{r:List iC},C9 T l=some r->tS T j b l=m4 j b r:=by
 intro l;induction l with
 |nil=>intro r h;cases h;rfl
 |cons x l k=>
  intro r h;obtain⟨y,c,h⟩:=aB.1 h;obtain⟨m,i,h⟩:=aB.1 h;cases h;have e:tS T j b (x::l)=aq (JR T j b x) λv=>aq (tS T j b l) λr=>some (v::r):=rfl
  rw[e,k i];cases x with
  |tmp t=>cases c;rfl
  |cell a t=>obtain⟨g,d,c⟩:=aB.1 c;obtain⟨s,f,c⟩:=aB.1 c;cases c;show aq (aq (T.isAgg t) λg=>aq (iZ T t) λs=>jd g s [aY.nw V.undef (path a) j] b) _=_;rw[d,f];rfl
def r3(Q:V->ah->Prop)(H:ah)(r:Option au):Prop:=match r with
 |some l=>Q (qw l) H
 |aN=>False
def gC(rs:List iC)(Q:V->ah->Prop):b5
 |.ret,F,H=>r3 Q H (m4 F H rs)
 |.norm,F,H=>r3 Q H (m4 F H rs)
 |.exit _,_,_=>False
variable{A:FuncId}{J:aS}
def WY(hT:dH P T)(b_:kH P N)(fI:P.follows .mixedOrders=true){fn:Func}{rs:List iC}(p:N.get aN A=some fn)(a:tw G N T fn=some (J,rs))
 {args:au}{Q:V->ah->Prop} (hl:b6 (c_ args) fn.ntmps=true) (h:wp P G J (mV args 0 .nil) b (gC rs Q)):dD P G (.fn A) args b Q:=by
 obtain⟨c,n,a⟩:=aB.1 a;cases j:uU G fn c with
 |false=>rw[j]at a;cases a
 |true=>
  rw[j]at a;obtain⟨s,q,a⟩:=aB.1 (show aq (comp N T c) (λJ=>aq (C9 T fn.results.toList) λr=>some (J,r))=some (J,rs)from a);obtain⟨t,m,a⟩:=aB.1 a;cases a;have o:codeOk G fn.ntmps c=true:=by unfold uU at j;rw[de,de]at j;exact j.2.1
  refine Gu hT b_ p n (by rw[j,hl];rfl) (Au (λx k f g=>?_) (KH hT b_ fI false c J q (λh=>by cases h) o _ _ _ h));cases x with
  |exit i=>exact g.elim
  |norm=>
   refine⟨aI,?_⟩;have d:r3 Q f (m4 k f rs):=g;cases e:m4 k f rs with
   |none=>rw[e]at d;exact d.elim
   |some l=>rw[e]at d;exact⟨l,(EI m).trans e,d⟩
  |ret=>
   refine⟨aI,?_⟩;have d:r3 Q f (m4 k f rs):=g;cases e:m4 k f rs with
   |none=>rw[e]at d;exact d.elim
   |some l=>rw[e]at d;exact⟨l,(EI m).trans e,d⟩
end
def rd(t:Nat)(F:Fr):V:=F.get V.undef t
def kc(v:V)(_:Fr):V:=v
@[go_sem]theorem azp(v:V)(F:Fr):kc v F=v:=rfl
@[go_sem↓]theorem JL(u t:Nat)(v:V)(F:Fr):rd u (put F (some t) v)=if t=u then v else rd u F:=qt F t u v
@[go_sem]theorem aAM(u:Nat):rd u .nil=V.undef:=aY.get_nil _ _
@[go_sem]theorem aAJ(v:V)(F:Fr):put F none v=F:=rfl
@[go_sem]theorem azi(i:Nat)(F:Fr):mV [] i F=F:=rfl
@[go_sem]theorem azh(v:V)(l:au)(i:Nat)(F:Fr):mV (v::l) i F=mV l (i+1) (put F (some i) v):=rfl
attribute [go_sem] mz
attribute [go_sem↓] reduceIte
def ex(d:Nat)(c:cl):dW:=.ex ⟨λ_=>some true,some d,c⟩
def bD(c:cl):dW:=.ex ⟨λ_=>some true,none,c⟩
def bB(j:Nat)(b:Bool)(d:Nat)(c:cl):dW:=.ex ⟨λF=>q8 b (rd j F),some d,c⟩
def re(d:Nat)(c:cl):dW:=.re ⟨λ_=>some true,some d,c⟩
def rg(j:Nat)(b:Bool)(d:Nat)(c:cl):dW:=.re ⟨λF=>q8 b (rd j F),some d,c⟩
def gp(a:BinOp):IntKind->Int->IntKind->Int->Option bh:=match DY a with|some f=>f|none=>λ_ _ _ _=>none
def tD(a:BinOp):aW->aW->Option bh:=match E7 a with|some f=>f|none=>λ_ _=>none
def mv(x:Fr->V):cl:=.pu [x] Sn
def bJ(x:Fr->V):cl:=.hG [x] Lp
def pick(a b c:Fr->V):cl:=.pu [a,b,c] BE
def VH(a:au)(l:au):Option bh:=match l with|[]=>some (.new a .ptr)|_=>none
def alloc(a:au):cl:=.pu [] (VH a)
def Gg(l:au):Option bh:=match l with|[v]=>aX (bM v) (some (.new (cellsOf v) .ptr))|_=>none
def box(x:Fr->V):cl:=.pu [x] Gg
def bi(a:BinOp)(x y:Fr->V):cl:=.pu [x,y] (ga (gp a))
def bs(a:BinOp)(x y:Fr->V):cl:=.pu [x,y] (sK (tD a))
def fd(a:Bool)(c b:Nat)(x:Fr->V):cl:=.pu [x] (A2 a c b)
def ba(ds:List TypeDesc)(x y:Fr->V):cl:=.pu [x,y] (CP ds)
def be(neg:Bool)(d:TypeDesc)(x y:Fr->V):cl:=.pu [x,y] (pI neg d)
def bG(a:Bool)(b:Nat)(x:Fr->V):cl:=.rd [x] (jd a b)
def st(b:Nat)(a v:Fr->V):cl:=.hG [a,v] (qB b)
def fa(a:Nat)(x:Fr->V):cl:=.pu [x] (zf a)
def bz(a:cq)(b:Nat)(x i:Fr->V):cl:=.pu [x,i] (dO a b)
def bY(x i:Fr->V):cl:=.pu [x,i] oa
def Ge(b:List (Nat×Nat))(d c:au):Option bh:=aq (q4 b c d) λa=>some (.val (.agg a))
def cv(a:List (Nat×Nat))(c:au)(b:List (Fr->V)):cl:=.pu b (Ge a c)
def CX(a:Nat)(c:List (Nat×Nat))(e d:au):Option bh:=aq (q4 c d (rep e a)) λb=>some (.new b (.slice a a))
def cn(a:Nat)(b:List (Nat×Nat))(d:au)(c:List (Fr->V)):cl:=.pu c (CX a b d)
def cw(lo hi mx:Bool)(a:List (Fr->V)):cl:=.pu a (slice3 ov lo hi mx)
def cT(s:Nat)(lo hi mx:Bool)(a:List (Fr->V)):cl:=.pu a (slice3 (kG s) lo hi mx)
def cS(n s:Nat)(lo hi mx:Bool)(a:List (Fr->V)):cl:=.pu a (slice3 (ou n s) lo hi mx)
def ms(bytes:Nat)(a:au)(x y:Fr->V):cl:=.pu [x,y] (l_ bytes a)
def cK(x:Fr->V):cl:=.pu [x] (un Bc)
def cr(x:Fr->V):cl:=.pu [x] (un di)
def cJ(x:Fr->V):cl:=.rd [x] wA
def cB(x:Fr->V):cl:=.pu [x] (un AI)
def mx(a:List (Fr->V)):cl:=.pu a (q6 max2)
def mn(a:List (Fr->V)):cl:=.pu a (q6 min2)
def cA(bytes:Nat)(a:au)(x y:Fr->V):cl:=.pu [x,y] (Az bytes a)
def ap(a bytes:Nat)(x y:Fr->V):cl:=.hG [x,y] (fU a bytes)
def cF(a:Nat)(x y:Fr->V):cl:=.hG [x,y] (oP a)
def yX(k:IntKind)(l:au):Option bh:=match l with|[.int _ n]=>jL k (aE k n)|_=>none
def bQ(k:IntKind)(x:Fr->V):cl:=.pu [x] (yX k)
def cC(x:Fr->V):cl:=.pu [x] Cg
def cD(x:Fr->V):cl:=.rd [x] vt
def bU(f:Nat)(a:List (Fr->V)):cl:=.call a λl=>some (.fn f,l)
def cE(a:List (Fr->V)):cl:=.call a oL
def ext(i:Nat)(x:Fr->V):cl:=.pu [x] (AY i)
def cO(x:Fr->V):cl:=.pu [x] Bt
def I3(l:au):Option bh:=match l with|[.int k n]=>jL k (aE k (Int.sub (.ofNat 0) n))|_=>none
def neg(x:Fr->V):cl:=.pu [x] I3
def I7(l:au):Option bh:=match l with|[.bool b]=>jw (!b)|_=>none
def not(x:Fr->V):cl:=.pu [x] I7
def zE(f n:Nat)(l:au):Option bh:=aq (T0 n l) λr=>some (.val (.func f r.1 r.2))
def cL(f n:Nat)(a:List (Fr->V)):cl:=.pu a (zE f n)
def gN(d:cq)(K:cm)(F:Fr)(H:ah)(r:Option bh):Prop:=match r with
 |none=>False
 |some (.val v)=>K (put F d v) H
 |some (.new a b)=>K (put F d (b.mk H.ag)) (H.push (.cells a 0))
def tc(d:cq)(K:cm)(F:Fr)(H:ah)(r:Option V):Prop:=match r with
 |none=>False
 |some v=>K (put F d v) H
def gW(d:cq)(K:cm)(F:Fr)(r:Option (V×ah)):Prop:=match r with
 |none=>False
 |some (v,a)=>K (put F d v) a
def qH(P:Program)(G:Nat)(d:cq)(K:cm)(F:Fr)(H:ah)(r:Option (qW×au)):Prop:=match r with
 |none=>False
 |some (t,args)=>dD P G t args H λv a=>K (put F d v) a
def An(d:cq)(K:cm)(F:Fr)(H:ah)(v:V):Prop:=K (put F d v) H
def KN(d:cq)(F:Fr)(r:Option V):Prop:=match r,d with
 |none,_=>False
 |some v,some t=>rd t F=v
 |some _,none=>True
variable{s:cm}{j:Fr}{b:ah}
@[congr]theorem ax3{r a:Option bh}(h:r=a):gN x s j b r=gN x s j b a:=by rw[h]
@[congr]theorem ax6{r a:Option V}(h:r=a):tc x s j b r=tc x s j b a:=by rw[h]
@[congr]theorem axJ{r a:Option (V×ah)}(h:r=a):gW x s j r=gW x s j a:=by rw[h]
@[congr]theorem awY{P:Program}{r c:Option (qW×au)}(h:r=c):qH P a x s j b r=qH P a x s j b c:=by rw[h]
@[congr]theorem axY{a:V}(h:l=a):An x s j b l=An x s j b a:=by rw[h]
@[congr]theorem ax8{Q:V->ah->Prop}{r a:Option au}(h:r=a):r3 Q b r=r3 Q b a:=by rw[h]
@[go_sem]theorem ax5(d:cq)(K:cm)(F:Fr)(H:ah)(v:V):gN d K F H (some (.val v))=K (put F d v) H:=rfl
@[go_sem]theorem ax4(d:cq)(K:cm)(F:Fr)(H:ah)(a:au)(b:Shape):gN d K F H (some (.new a b))=K (put F d (b.mk H.ag)) (H.push (.cells a 0)):=rfl
@[go_sem]theorem ax7(d:cq)(K:cm)(F:Fr)(H:ah)(v:V):tc d K F H (some v)=K (put F d v) H:=rfl
@[go_sem]theorem axK(d:cq)(K:cm)(F:Fr)(a:ah)(v:V):gW d K F (some (v,a))=K (put F d v) a:=rfl
@[go_sem]theorem axZ(d:cq)(K:cm)(F:Fr)(H:ah)(v:V):An d K F H v=K (put F d v) H:=rfl
@[go_sem]theorem ax9(Q:V->ah->Prop)(H:ah)(l:au):r3 Q H (some l)=Q (qw l) H:=rfl
def ey(P:Program)(G:Nat)(c:cl)(d:cq)(F:Fr)(H:ah)(K:cm):Prop:=match c with
 |.bad=>False
 |.pu a g=>gN d K F H (g (vals a F))
 |.rd a g=>tc d K F H (g (vals a F) H)
 |.hG a g=>gW d K F (g (vals a F) H)
 |.call a g=>qH P G d K F H (g (vals a F))
 |.od x=>CD (x F) H λv b=>K (put F d v) b
theorem Ki{P:Program}{w:Fr->Option Bool}{c:cl}(k:w j=some true):kq P a ⟨w,x,c⟩ j b s=ey P a c x j b s:=by
 apply propext
 have n:kq P a ⟨w,x,c⟩ j b s↔match c with
  |.call f g=>∃t args,g (vals f j)=some (t,args)/\dD P a t args b λv i=>s (put j x v) i
  |.od m=>CD (m j) b λv i=>s (put j x v) i
  |_=>∃l i,exec sB ⟨w,x,c⟩ j b=some (l,i)/\s l i:=by
  unfold kq;constructor
  .grind
  .grind
 rw[n];cases c with
 |call f g=>
  unfold ey qH
  grind
 |od m=>exact Iff.rfl
 |bad=>
  constructor
  .rintro⟨l,i,h,_⟩;simp only[exec,k]at h;cases h
  .exact False.elim
 |pu f g=>
  unfold ey gN;simp only[exec,k];cases e:g (vals f j)with
  |none=>simp[aq]
  |some r=>cases r<;>(simp only[aq,Option.some.injEq,Prod.mk.injEq];grind)
 |rd f g=>
  unfold ey tc;simp only[exec,k];cases e:g (vals f j) b with
  |none=>simp[aq]
  |some r=>simp only[aq,Option.some.injEq,Prod.mk.injEq];grind
 |hG f g=>
  unfold ey gW;simp only[exec,k];cases e:g (vals f j) b with
  |none=>simp[aq]
  |some r=>simp only[aq,Option.some.injEq,Prod.mk.injEq];grind
theorem step_skip{P:Program}{w:Fr->Option Bool}{c:cl}(e:w j=some false):kq P a ⟨w,x,c⟩ j b s=s (put j x V.undef) b:=by
 apply propext;unfold kq
 grind
theorem au0{P:Program}{w:Fr->Option Bool}{c:cl}(e:w j=none):kq P a ⟨w,x,c⟩ j b s=False:=by
 apply propext;unfold kq
 grind
def s0(P:Program)(G:Nat)(b:Bool)(c:cl)(d:cq)(K:cm)(F:Fr)(H:ah)(v:V):Prop:=match q8 b v with
 |none=>False
 |some true=>ey P G c d F H K
 |some false=>K (put F d V.undef) H
def k5(P:Program)(G:Nat)(l:List dW)(Q:cm)(F:Fr)(H:ah):Prop:=g_ P G l F H Q
def jJ(P:Program)(G:Nat)(c:aS)(R:b5)(F:Fr)(H:ah):Prop:=wp P G c F H R
def Aj(P:Program)(G:Nat)(a b:aS)(R:b5)(F:Fr)(H:ah)(v:V):Prop:=uo v (wp P G a F H R) (wp P G b F H R)
def rO(P:Program)(G:Nat)(d:cq)(l:List dW)(Q:cm)(F:Fr)(H:ah)(r:Option V):Prop:=KN d F r/\g_ P G l F H Q
@[congr]theorem axN{P:Program}{c:cl}{v:V}(h:v=l):s0 P a n c x s j b v=s0 P a n c x s j b l:=by rw[h]
variable{m:Nat}{J:aS}
@[congr]theorem axT{P:Program}{a:aS}{R:b5}{v:V}(h:v=l):Aj P m a J R j b v=Aj P m a J R j b l:=by rw[h]
@[congr]theorem awW{P:Program}{l:List dW}{r c:Option V}(h:r=c):rO P a x l s j b r=rO P a x l s j b c:=by rw[h]
section
variable {P:Program}{G:Nat}{F:Fr}{H:ah}{Q:cm}{R:b5}{d:cq}{K:cm}
@[go_sem]theorem axR(c:cl):s0 P G true c d K F H (.bool true)=ey P G c d F H K:=rfl
@[go_sem]theorem axO(c:cl):s0 P G false c d K F H (.bool false)=ey P G c d F H K:=rfl
@[go_sem]theorem axP(c:cl):s0 P G false c d K F H (.bool true)=K (put F d V.undef) H:=rfl
@[go_sem]theorem axQ(c:cl):s0 P G true c d K F H (.bool false)=K (put F d V.undef) H:=rfl
@[go_sem]theorem axV(a b:aS):Aj P G a b R F H (.bool true)=jJ P G a R F H:=rfl
@[go_sem]theorem axU(a b:aS):Aj P G a b R F H (.bool false)=jJ P G b R F H:=rfl
@[go_sem↓]theorem ayh:k5 P G [] Q F H=Q F H:=rfl
@[go_sem↓]theorem ayg(i:Nat)(c:cl)(l:List dW):k5 P G (ex i c::l) Q F H=ey P G c (some i) F H (k5 P G l Q):=by show kq P G ⟨λ_=>some true,some i,c⟩ F H (k5 P G l Q)=_;exact Ki rfl
@[go_sem↓]theorem ayf(c:cl)(l:List dW):k5 P G (bD c::l) Q F H=ey P G c none F H (k5 P G l Q):=by show kq P G ⟨λ_=>some true,none,c⟩ F H (k5 P G l Q)=_;exact Ki rfl
theorem alb(j:Nat)(b:Bool)(dd:cq)(c:cl):kq P G ⟨λF=>q8 b (rd j F),dd,c⟩ F H K=s0 P G b c dd K F H (rd j F):=by
 unfold s0
 grind [au0,Ki,step_skip]
@[go_sem↓]theorem aye(j:Nat)(b:Bool)(i:Nat)(c:cl)(l:List dW):k5 P G (bB j b i c::l) Q F H=s0 P G b c (some i) (k5 P G l Q) F H (rd j F):=by
 show kq P G ⟨λF=>q8 b (rd j F),some i,c⟩ F H (k5 P G l Q)=_
 grind [alb]
variable{t:List (Fr->V)}
theorem Ld{w:Fr->Option Bool}(f:w F=some true){dd:cq}{g:au->ah->Option V}:yw ⟨w,dd,.rd t g⟩ F H↔KN dd F (g (vals t F) H):=by
 constructor
 .rintro(h|⟨_,h⟩)
  .grind
  .obtain⟨v,c,d⟩:=h t g rfl;rw[c];cases dd with
   |none=>exact trivial
   |some b=>exact d b rfl
 .intro h;refine .inr ⟨f,λj i e=>?_⟩;cases e;cases e:g (vals t F) H with
  |none=>rw[e]at h;cases dd<;>exact h.elim
  |some v=>refine⟨v,rfl,λb a=>?_⟩;have a:dd=some b:=a;rw[e,a]at h;exact h
def as3(w:Fr->Option Bool)(b:w F=some true)(dd:cq)(a:List (Fr->V))(g:au->ah->Option V)(l:List dW):g_ P G (.re ⟨w,dd,.rd a g⟩::l) F H Q=rO P G dd l Q F H (g (vals a F) H):=by unfold rO;rw[<-Ld b];rfl
@[go_sem↓]theorem ayi(i:Nat)(g:Bool)(s:Nat)(x:Fr->V)(l:List dW):k5 P G (re i (bG g s x)::l) Q F H=rO P G (some i) l Q F H (jd g s [x F] H):=as3 _ rfl _ _ _ _
@[go_sem]theorem awX(i:Nat)(l:List dW)(v:V):rO P G (some i) l Q F H (some v)=(rd i F=v/\k5 P G l Q F H):=rfl
@[go_sem↓]theorem ayq:jJ P G .skip R F H=R .norm F H:=rfl
@[go_sem↓]theorem ayo:jJ P G .ret R F H=R .ret F H:=rfl
@[go_sem↓]theorem aym(id:Nat):jJ P G (.exit id) R F H=R (.exit id) F H:=rfl
@[go_sem↓]theorem ayn(l:List dW):jJ P G (.c7 l) R F H=k5 P G l (R .norm) F H:=rfl
@[go_sem↓]theorem ayp(a b:aS):jJ P G (.seq a b) R F H=jJ P G a (gy (jJ P G b R) R) F H:=rfl
@[go_sem↓]theorem ayl(x:Fr->V)(a b:aS):jJ P G (.cond x a b) R F H=Aj P G a b R F H (x F):=rfl
@[go_sem↓]theorem ayk(id:Nat)(b:aS):jJ P G (.block id b) R F H=jJ P G b (hD id R) F H:=rfl
@[go_sem↓]theorem aAZ(K:cm):gy K R .norm F H=K F H:=rfl
@[go_sem↓]theorem aA0(K:cm):gy K R .ret F H=R .ret F H:=rfl
@[go_sem↓]theorem aAY(K:cm)(i:Nat):gy K R (.exit i) F H=R (.exit i) F H:=rfl
@[go_sem↓]theorem ayH(id:Nat):hD id R .norm F H=R .norm F H:=rfl
@[go_sem↓]theorem ayI(id:Nat):hD id R .ret F H=R .ret F H:=rfl
@[go_sem↓]theorem gb(id:Nat):hD id R (.exit id) F H=R .norm F H:=ay rfl
theorem Gf{id:Nat}(h:a≠id):hD id R (.exit a) F H=R (.exit a) F H:=ao h
def qT(I:Nat->cm)(k:Nat)(F:Fr)(H:ah):Prop:=∃m,m<k/\I m F H
def b8(I:Nat->cm)(k:Nat)(a:I k F H)(h:∀k F H,I k F H->jJ P G J (gy (qT I k) R) F H):jJ P G (.loop J) R F H:=⟨I,k,a,h⟩
variable{A:FuncId}
def pD{N:fh}{T:c6}(hT:dH P T)(b_:kH P N)(fI:P.follows .mixedOrders=true){fn:Func}{rs:List iC}(a:N.get aN A=some fn)(b:tw G N T fn=some (J,rs))
 {args:au}{H:ah}{Q:V->ah->Prop} (hl:b6 (c_ args) fn.ntmps=true) (h:jJ P G J (gC rs Q) (mV args 0 .nil) H):dD P G (.fn A) args H Q:=WY hT b_ fI a b hl h
@[go_sem↓]theorem axM(rs:List iC)(Q:V->ah->Prop):gC rs Q .ret F H=r3 Q H (m4 F H rs):=rfl
@[go_sem↓]theorem axL(rs:List iC)(Q:V->ah->Prop):gC rs Q .norm F H=r3 Q H (m4 F H rs):=rfl
@[go_sem]theorem aAS:m4 F H []=some []:=rfl
@[go_sem]theorem aAT(t:Nat)(l:List iC):m4 F H (.tmp t::l)=aq (m4 F H l) λl=>some (rd t F::l):=rfl
@[go_sem]theorem aAR(a:Nat)(g:Bool)(s:Nat)(l:List iC):m4 F H (.cell a g s::l)=aq (jd g s [rd a F] H) λv=>aq (m4 F H l) λl=>some (v::l):=rfl
@[go_sem]theorem aAP(v:V):qw [v]=v:=rfl
@[go_sem]theorem aAQ(v u:V)(l:au):qw (v::u::l)=.aH (v::u::l):=rfl
@[go_sem]theorem aAO:qw []=.aH []:=rfl
@[go_sem]theorem By{c:Type}(a:f)(b:f->Option c):aq (some a) b=b a:=rfl
@[go_sem]theorem aAj{b:Type}(a:f->Option b):aq none a=none:=rfl
@[go_sem]theorem Eu(x:Option f):aX true x=x:=rfl
@[go_sem]theorem aAk(x:Option f):aX false x=none:=rfl
@[go_sem↓]theorem axw(x:Fr->V):ey P G (mv x) d F H K=An d K F H (x F):=rfl
@[go_sem↓]theorem aw2(x:Fr->V):ey P G (bJ x) d F H K=An d K F H (x F):=rfl
@[go_sem↓]theorem axC(a b c:Fr->V):ey P G (pick a b c) d F H K=gN d K F H (BE [a F,b F,c F]):=rfl
@[go_sem↓]theorem awZ(a:au):ey P G (alloc a) d F H K=K (put F d (.ptr H.ag 0)) (H.push (.cells a 0)):=rfl
@[go_sem↓]theorem aw7(x:Fr->V):ey P G (box x) d F H K=gN d K F H (Gg [x F]):=rfl
@[go_sem↓]theorem aw5(a:BinOp)(x y:Fr->V):ey P G (bi a x y) d F H K=gN d K F H (ga (gp a) [x F,y F]):=rfl
@[go_sem↓]theorem aw8(a:BinOp)(x y:Fr->V):ey P G (bs a x y) d F H K=gN d K F H (sK (tD a) [x F,y F]):=rfl
@[go_sem↓]theorem axi(g:Bool)(s o:Nat)(x:Fr->V):ey P G (fd g s o x) d F H K=gN d K F H (A2 g s o [x F]):=rfl
@[go_sem↓]theorem aw3(ds:List TypeDesc)(x y:Fr->V):ey P G (ba ds x y) d F H K=gN d K F H (CP ds [x F,y F]):=rfl
@[go_sem↓]theorem aw4(n:Bool)(t:TypeDesc)(x y:Fr->V):ey P G (be n t x y) d F H K=gN d K F H (pI n t [x F,y F]):=rfl
@[go_sem↓]theorem axl(g:Bool)(s:Nat)(x:Fr->V):ey P G (bG g s x) d F H K=tc d K F H (jd g s [x F] H):=rfl
@[go_sem↓]theorem axI(s:Nat)(a v:Fr->V):ey P G (st s a v) d F H K=gW d K F (qB s [a F,v F] H):=rfl
@[go_sem↓]theorem axh(o:Nat)(x:Fr->V):ey P G (fa o x) d F H K=gN d K F H (zf o [x F]):=rfl
@[go_sem↓]theorem axj(a:cq)(s:Nat)(x i:Fr->V):ey P G (bz a s x i) d F H K=gN d K F H (dO a s [x F,i F]):=rfl
@[go_sem↓]theorem axk(x i:Fr->V):ey P G (bY x i) d F H K=gN d K F H (oa [x F,i F]):=rfl
@[go_sem]theorem aA1:vals [] F=[]:=rfl
@[go_sem]theorem Cp(f:Fr->V)(l:List (Fr->V)):vals (f::l) F=f F::vals l F:=rfl
@[go_sem↓]theorem aw6(a:List (Nat×Nat))(c:au)(b:List (Fr->V)):ey P G (cv a c b) d F H K=gN d K F H (Ge a c (vals b F)):=rfl
@[go_sem↓]theorem aw9(n:Nat)(a:List (Nat×Nat))(c:au)(b:List (Fr->V)):ey P G (cn n a c b) d F H K=gN d K F H (CX n a c (vals b F)):=rfl
@[go_sem↓]theorem axH(a b c:Bool)(e:List (Fr->V)):ey P G (cw a b c e) d F H K=gN d K F H (slice3 ov a b c (vals e F)):=rfl
@[go_sem↓]theorem axG(s:Nat)(a b c:Bool)(e:List (Fr->V)):ey P G (cT s a b c e) d F H K=gN d K F H (slice3 (kG s) a b c (vals e F)):=rfl
@[go_sem↓]theorem axF(n s:Nat)(a b c:Bool)(e:List (Fr->V)):ey P G (cS n s a b c e) d F H K=gN d K F H (slice3 (ou n s) a b c (vals e F)):=rfl
@[go_sem↓]theorem axu(n:Nat)(a:au)(x y:Fr->V):ey P G (ms n a x y) d F H K=gN d K F H (l_ n a [x F,y F]):=rfl
@[go_sem↓]theorem axp(x:Fr->V):ey P G (cK x) d F H K=gN d K F H (Bc (x F)):=rfl
@[go_sem↓]theorem axn(x:Fr->V):ey P G (cr x) d F H K=gN d K F H (di (x F)):=rfl
@[go_sem↓]theorem aw'(x:Fr->V):ey P G (cB x) d F H K=gN d K F H (AI (x F)):=rfl
@[go_sem↓]theorem axx(a:List (Fr->V)):ey P G (mx a) d F H K=gN d K F H (q6 max2 (vals a F)):=rfl
@[go_sem↓]theorem axt(a:List (Fr->V)):ey P G (mn a) d F H K=gN d K F H (q6 min2 (vals a F)):=rfl
@[go_sem↓]theorem aw1(n:Nat)(a:au)(x y:Fr->V):ey P G (cA n a x y) d F H K=gN d K F H (Az n a [x F,y F]):=rfl
@[go_sem↓]theorem aw0(s n:Nat)(x y:Fr->V):ey P G (ap s n x y) d F H K=gW d K F (fU s n [x F,y F] H):=rfl
@[go_sem↓]theorem axe(s:Nat)(x y:Fr->V):ey P G (cF s x y) d F H K=gW d K F (oP s [x F,y F] H):=rfl
@[go_sem↓]theorem axa(k:IntKind)(x:Fr->V):ey P G (bQ k x) d F H K=gN d K F H (yX k [x F]):=rfl
@[go_sem↓]theorem axb(x:Fr->V):ey P G (cC x) d F H K=gN d K F H (Cg [x F]):=rfl
@[go_sem↓]theorem axc(x:Fr->V):ey P G (cD x) d F H K=tc d K F H (vt [x F] H):=rfl
@[go_sem↓]theorem aw_(f:Nat)(a:List (Fr->V)):ey P G (bU f a) d F H K=qH P G d K F H (some (.fn f,vals a F)):=rfl
@[go_sem↓]theorem axd(a:List (Fr->V)):ey P G (cE a) d F H K=qH P G d K F H (oL (vals a F)):=rfl
@[go_sem↓]theorem axg(i:Nat)(x:Fr->V):ey P G (ext i x) d F H K=gN d K F H (AY i [x F]):=rfl
@[go_sem↓]theorem axz(x:Fr->V):ey P G (cO x) d F H K=gN d K F H (Bt [x F]):=rfl
@[go_sem↓]theorem axy(x:Fr->V):ey P G (neg x) d F H K=gN d K F H (I3 [x F]):=rfl
@[go_sem↓]theorem axA(x:Fr->V):ey P G (not x) d F H K=gN d K F H (I7 [x F]):=rfl
@[go_sem↓]theorem axq(f n:Nat)(a:List (Fr->V)):ey P G (cL f n a) d F H K=gN d K F H (zE f n (vals a F)):=rfl
def use{args:au}(h:∀H,dD P G (.fn A) args H λv a=>v=l/\a=H)(e:K (put F d l) H):qH P G d K F H (some (.fn A,args)):=(h H).mono λv a ⟨b,c⟩=>by rw[b,c];exact e
end
def sy(k:IntKind):iF k k=true:=by cases k<;>rfl
section
variable (k:IntKind) (a b:Int)
@[go_sem]theorem ayv:ga (gp .add) [.int k a,.int k b]=some (.val (.int k (aE k (a+b)))):=by show aX (iF k k) _=_;rw[sy];rfl
@[go_sem]theorem ayF:ga (gp .sub) [.int k a,.int k b]=some (.val (.int k (aE k (a-b)))):=by show aX (iF k k) _=_;rw[sy];rfl
@[go_sem]theorem ayB:ga (gp .mul) [.int k a,.int k b]=some (.val (.int k (aE k (a*b)))):=by show aX (iF k k) _=_;rw[sy];rfl
def j5(h:b≠0):ga (gp .quo) [.int k a,.int k b]=some (.val (.int k (aE k (a.tdiv b)))):=by show aX (and (iF k k) (!(n_ b 0))) _=_;rw[sy,tK,bP h];rfl
def nY(h:b≠0):ga (gp .rem) [.int k a,.int k b]=some (.val (.int k (a.tmod b))):=by show aX (and (iF k k) (!(n_ b 0))) _=_;rw[sy,tK,bP h];rfl
@[go_sem]theorem ayw:ga (gp .eql) [.int k a,.int k b]=some (.val (.bool (decide (a=b)))):=by show aX (iF k k) (jw (n_ a b))=_;rw[sy,tK];rfl
@[go_sem]theorem ayC:ga (gp .neq) [.int k a,.int k b]=some (.val (.bool (!decide (a=b)))):=by show aX (iF k k) (jw (!n_ a b))=_;rw[sy,tK];rfl
@[go_sem]theorem ayA:ga (gp .lss) [.int k a,.int k b]=some (.val (.bool (decide (a<b)))):=by show aX (iF k k) (jw (l7 a b))=_;rw[sy,qj];rfl
@[go_sem]theorem ayy:ga (gp .gtr) [.int k a,.int k b]=some (.val (.bool (decide (b<a)))):=by show aX (iF k k) (jw (l7 b a))=_;rw[sy,qj];rfl
@[go_sem]theorem ayz:ga (gp .leq) [.int k a,.int k b]=some (.val (.bool (!decide (b<a)))):=by show aX (iF k k) (jw (!l7 b a))=_;rw[sy,qj];rfl
@[go_sem]theorem ayx:ga (gp .geq) [.int k a,.int k b]=some (.val (.bool (!decide (a<b)))):=by show aX (iF k k) (jw (!l7 a b))=_;rw[sy,qj];rfl
end
@[go_sem]theorem Wb(k l:IntKind)(a:Int)(n:Nat):ga (gp .shr) [.int k a,.int l (n:Int)]=some (.val (.int k (tU a (ej n (h_ k))))):=rfl
@[go_sem]theorem Wa(k l:IntKind)(a:Int)(n:Nat):ga (gp .shl) [.int k a,.int l (n:Int)]=some (.val (.int k (aE k (a*((2^ej n (h_ k):Nat):Int))))):=rfl
@[go_sem]theorem ayE(k l:IntKind)(a:Int)(n:Nat):ga (gp .shr) [.int k a,.int l (no_index (OfNat.ofNat n))]=some (.val (.int k (tU a (ej n (h_ k))))):=rfl
@[go_sem]theorem ayD(k l:IntKind)(a:Int)(n:Nat):ga (gp .shl) [.int k a,.int l (no_index (OfNat.ofNat n))]=some (.val (.int k (aE k (a*((2^ej n (h_ k):Nat):Int))))):=rfl
def aK(x:Int)(h: -9223372036854775808<=x/\x<9223372036854775808):aE .i64 x=x:=by rw[rN];unfold uv;simp[rQ,rR];omega
def hN(x:Int):aE .u64 x=x%18446744073709551616:=by rw[rN];unfold uv;simp[rQ,rR]
def pU(x:Int):aE .u32 x=x%4294967296:=by rw[rN];unfold uv;simp[rQ,rR]
def UM(x:Int):aE .u8 x=x%256:=by rw[rN];unfold uv;simp[rQ,rR]
theorem cz(x:Int)(h:0<=x/\x<18446744073709551616):aE .u64 x=x:=by rw[hN];omega
theorem iU(x:Int)(h:0<=x/\x<4294967296):aE .u32 x=x:=by rw[pU];omega
def H_(x:Int)(h:0<=x/\x<256):aE .u8 x=x:=by rw[UM];omega
@[go_sem]theorem ay9(k l:IntKind)(n:Int):yX k [.int l n]=some (.val (.int k (aE k n))):=rfl
@[go_sem]theorem aAI(x y:V):BE [.bool true,x,y]=some (.val x):=rfl
@[go_sem]theorem aAH(x y:V):BE [.bool false,x,y]=some (.val y):=rfl
@[go_sem]theorem aAi(b:Bool):I7 [.bool b]=some (.val (.bool (!b))):=rfl
@[go_sem]theorem aAf(k:IntKind)(n:Int):I3 [.int k n]=some (.val (.int k (aE k (-n)))):=by show jL k (aE k (Int.sub 0 n))=_;rw[show Int.sub 0 n= -n from Int.zero_sub n];rfl
@[go_sem]theorem azb(i:Nat)(l:au):AY i [.aH l]=aq (dw l i) λv=>some (.val v):=rfl
@[go_sem]theorem ap3(a:f)(l:List f):dw (a::l) 0=some a:=rfl
@[go_sem]theorem R5(a:f)(l:List f)(n:Nat):dw (a::l) (n+1)=dw l n:=rfl
@[go_sem]theorem Bi(l:List f):cW l 0=some []:=by cases l<;>rfl
@[go_sem]theorem Sd(a:f)(l:List f)(n:Nat):cW (a::l) (n+1)=aq (cW l n) λr=>some (a::r):=rfl
@[go_sem]theorem dQ(l:List f):eH l 0=l:=by cases l<;>rfl
@[go_sem]theorem RY(a:f)(l:List f)(n:Nat):eH (a::l) (n+1)=eH l n:=rfl
@[go_sem]theorem az0(n:Nat)(a:au):di (.row n a)=some (.val (.int .i64 (n:Int))):=rfl
@[go_sem]theorem az2(b o n:Nat)(c:Cap):di (.slice b o n c)=some (.val (.int .i64 (n:Int))):=rfl
@[go_sem]theorem azY:di .aA=some (.val (.int .i64 0)):=rfl
@[go_sem]theorem azU:di .emp=some (.val (.int .i64 0)):=rfl
@[go_sem]theorem az3(s:aW):Bc (.str s)=some (.val (.int .i64 (s.length:Int))):=by show jL .i64 (.ofNat (c_ s))=_;rw[iw];rfl
@[go_sem]theorem ayu(n x y:Bool):pI n .bool [.bool x,.bool y]=some (.val (.bool (xor n (x==y)))):=by cases n<;>cases x<;>cases y<;>rfl
@[go_sem]theorem aAh(b o:Nat):Bt [.ptr b o]=some (.val (.ptr b o)):=rfl
@[go_sem]theorem azc(b o f:Nat):zf f [.ptr b o]=some (.val (.ptr b (o+f))):=rfl
@[go_sem]theorem aze(g:Bool)(s o:Nat)(a:au):A2 g s o [.agg a]=BC g s a o:=rfl
@[go_sem]theorem aAF(s o:Nat)(a:au):BC false s a o=aq (dw a o) λv=>some (.val v):=rfl
@[go_sem]theorem aAG(s o:Nat)(a:au):BC true s a o=aq (cW (eH a o) s) λr=>some (.val (.agg r)):=rfl
@[go_sem]theorem azd(a:au)(o f:Nat):zf f [.dY a o]=some (.val (.dY a (o+f))):=rfl
def nr(k:IntKind)(h:0<=q):gZ (.int k q)=some q.toNat:=by
 cases q with
 |ofNat n=>rfl
 |negSucc n=>omega
def lD{a:Nat}(h:a<=d):b6 a d=true:=(fV _ _).2 h
variable{c:au}
def nx(h:0<=q/\q<m):dO none d [.row m c,.int p q]=some (.val (.dY c (q.toNat*d))):=by show aq (gZ (.int p q)) _=_;rw[nr p h.1];show aX (b6 (q.toNat+1) m) _=_;rw[lD aa];rfl
variable{D:Nat}{O:Nat}{Y:Cap}
theorem cH(h:0<=q/\q<O):dO none d [.slice m D O Y,.int p q]=some (.val (.ptr m (D+q.toNat*d))):=by show aq (gZ (.int p q)) _=_;rw[nr p h.1];show aX (b6 (q.toNat+1) O) _=_;rw[lD aa];rfl
@[go_sem]theorem azS(s k:Nat)(a:au)(H:ah):jd false s [.dY a k] H=dw a k:=rfl
@[go_sem]theorem azT(s k:Nat)(a:au)(H:ah):jd true s [.dY a k] H=aq (cW (eH a k) s) λr=>some (.agg r):=rfl
@[go_sem]theorem I6(H:ah)(o:dU):(H.push o).ag=H.ag+1:=rfl
@[go_sem]theorem kQ(H:ah)(b:Nat)(o:dU):(H.set b o).ag=H.ag:=rfl
@[go_sem]theorem aAg(G:Nat):(ah.zero G).ag=G:=rfl
attribute [go_sem↓] ah.bl ah.aT
attribute [go_sem] ah.hL eW dG eD kn cg Nat.reduceAdd Nat.reduceMul
@[go_sem]theorem aAc(b:Nat):Shape.mk .ptr b=.ptr b 0:=rfl
@[go_sem]theorem aAd(b l c:Nat):Shape.mk (.slice l c) b=.slice b 0 l (.known c):=rfl
@[go_sem]theorem aAb(b l:Nat):Shape.mk (.least l) b=.slice b 0 l (.least l):=rfl
@[go_sem]theorem aAa(b l:Nat):Shape.mk (.bytes l) b=.slice b 0 l .oY:=rfl
def Xg(o:dU):Option au:=match o with|.cells a 0=>some a|_=>none
@[go_sem]theorem ayM(a:au):Xg (.cells a 0)=some a:=rfl
variable{I:ah}
def fO{cs:au}(h:I.get d=.cells cs 0):I.dz d m D=cW (eH cs m) D:=by unfold ah.dz ah.cells?;rw[h];rfl
theorem fE{v:V}(h:d<af c):dj [v] c d=some (c.set d v):=by simp_all [mH,ay,Nat.succ_le_of_lt,List.set_eq_take_append_cons_drop]
def dt{p:Prop}[Decidable p](h:p):decide p=true:=b3 h
def df{p:Prop}[Decidable p](h:¬p):decide p=false:=bP h
@[go_sem]theorem I8:(!true)=false:=rfl
@[go_sem]theorem nf:(!false)=true:=rfl
@[go_sem]theorem L3:(true==true)=true:=rfl
@[go_sem]theorem L2:(true==false)=false:=rfl
@[go_sem]theorem L1:(false==true)=false:=rfl
@[go_sem]theorem L0:(false==false)=true:=rfl
@[go_sem]theorem aA3(b:Bool):(xor false b)=b:=by cases b<;>rfl
@[go_sem]theorem aA4(b:Bool):(xor true b)= !b:=by cases b<;>rfl
@[go_sem]theorem ayG(a:List (Nat×Nat))(c b:au):Ge a c b=aq (q4 a b c) λd=>some (.val (.agg d)):=rfl
@[go_sem]theorem ayL(n:Nat)(a:List (Nat×Nat))(c b:au):CX n a c b=aq (q4 a b (rep c n)) λd=>some (.new d (.slice n n)):=rfl
@[go_sem]theorem azg(b a:au):q4 [] b a=some a:=rfl
@[go_sem]theorem azf(a s:Nat)(c:List (Nat×Nat))(v:V)(d b:au):q4 ((a,s)::c) (v::d) b=aX (and (bM v) (bt (c_ (cellsOf v)) s)) (aq (dj (cellsOf v) b a) λb=>q4 c d b):=rfl
@[go_sem]theorem azr(b:Bool):bM (.bool b)=true:=rfl
@[go_sem]theorem azu(k:IntKind)(n:Int):bM (.int k n)=true:=rfl
@[go_sem]theorem azG(s:aW):bM (.str s)=true:=rfl
@[go_sem]theorem azD(n:Nat)(s:au):bM (.row n s)=true:=rfl
@[go_sem]theorem azq(s:au):bM (.agg s)=true:=rfl
@[go_sem]theorem azC(b o:Nat):bM (.ptr b o)=true:=rfl
@[go_sem]theorem azF(b o n:Nat)(c:Cap):bM (.slice b o n c)=true:=rfl
@[go_sem]theorem azA:bM .aA=true:=rfl
@[go_sem]theorem azs:bM .emp=true:=rfl
@[go_sem]theorem azz:bM .jV=true:=rfl
@[go_sem]theorem azt(f:Nat)(a b:au):bM (.func f a b)=true:=rfl
@[go_sem]theorem ayN(s:au):cellsOf (.agg s)=s:=rfl
@[go_sem]theorem ayO(b:Bool):cellsOf (.bool b)=[.bool b]:=rfl
@[go_sem]theorem ayR(k:IntKind)(n:Int):cellsOf (.int k n)=[.int k n]:=rfl
@[go_sem]theorem ay0(s:aW):cellsOf (.str s)=[.str s]:=rfl
@[go_sem]theorem ayY(n:Nat)(s:au):cellsOf (.row n s)=[.row n s]:=rfl
@[go_sem]theorem ayX(b o:Nat):cellsOf (.ptr b o)=[.ptr b o]:=rfl
@[go_sem]theorem ayZ(b o n:Nat)(c:Cap):cellsOf (.slice b o n c)=[.slice b o n c]:=rfl
@[go_sem]theorem ayW:cellsOf .aA=[.aA]:=rfl
@[go_sem]theorem ayP:cellsOf .emp=[.emp]:=rfl
@[go_sem]theorem ayV:cellsOf .jV=[.jV]:=rfl
@[go_sem]theorem ayQ(f:Nat)(a b:au):cellsOf (.func f a b)=[.func f a b]:=rfl
@[go_sem]theorem aAl(b:Bool):V.one (.bool b)=true:=rfl
@[go_sem]theorem aAo(k:IntKind)(n:Int):V.one (.int k n)=true:=rfl
@[go_sem]theorem aAx(s:aW):V.one (.str s)=true:=rfl
@[go_sem]theorem aAv(n:Nat)(s:au):V.one (.row n s)=true:=rfl
@[go_sem]theorem aAu(b o:Nat):V.one (.ptr b o)=true:=rfl
@[go_sem]theorem aAw(b o n:Nat)(c:Cap):V.one (.slice b o n c)=true:=rfl
@[go_sem]theorem aAt:V.one .aA=true:=rfl
@[go_sem]theorem aAm:V.one .emp=true:=rfl
@[go_sem]theorem aAs:V.one .jV=true:=rfl
@[go_sem]theorem aAn(f:Nat)(a b:au):V.one (.func f a b)=true:=rfl
@[go_sem]theorem ayt:dI []=true:=rfl
@[go_sem]theorem ays(v:V)(l:au):dI (v::l)=and v.one (dI l):=rfl
@[go_sem]theorem az':c_ ([]:List f)=0:=rfl
@[go_sem]theorem az_(a:f)(l:List f):c_ (a::l)=c_ l+1:=rfl
@[go_sem]theorem aAe(n:Nat):bt n n=true:=uA n
@[go_sem]theorem ayr:and true true=true:=rfl
@[go_sem]theorem aAV(a:List f)(v:f)(l:List f):dj a (v::l) 0=oV a (v::l):=rfl
@[go_sem]theorem aAW(a:List f)(v:f)(l:List f)(n:Nat):dj a (v::l) (n+1)=aq (dj a l n) λr=>some (v::r):=rfl
@[go_sem]theorem aAC(l:List f):oV [] l=some l:=rfl
@[go_sem]theorem aAD(x y:f)(a l:List f):oV (x::a) (y::l)=aq (oV a l) λr=>some (x::r):=rfl
@[go_sem]theorem aAN(l:List f):rep l 0=[]:=rfl
@[go_sem]theorem BP(l:List f)(n:Nat):rep l (n+1)=dJ l (rep l n):=rfl
@[go_sem]theorem Eb(l:List f):dJ [] l=l:=rfl
@[go_sem]theorem azO(a:f)(l m:List f):dJ (a::l) m=a::dJ l m:=rfl
@[go_sem]theorem ayJ(v:V):Gg [v]=aX (bM v) (some (.new (cellsOf v) .ptr)):=rfl
def tM(g:Bool)(s o:Nat)(H:ah)(b:Nat)(x:dU):Option V:=match x with
 |.cells a c=>match H.gr b c,g with
  |true,false=>dw a o
  |true,true=>aq (cW (eH a o) s) λr=>some (.agg r)
  |false,_=>none
 |_=>none
def E4(s o:Nat)(H:ah)(b:Nat)(v:V)(x:dU):Option (V×ah):=match x with
 |.cells a 0=>aX (and (bM v) (bt (c_ (cellsOf v)) s)) (aX (dI (cellsOf v)) (aq (dj (cellsOf v) a o) λc=>some (V.undef,H.set b (.cells c 0))))
 |.cells _ _=>aX (and (bM v) (bt (c_ (cellsOf v)) s)) (aq (H.fe b o (cellsOf v)) λH=>some (V.undef,H))
 |_=>none
@[congr]theorem azP{x a:dU}(h:x=a):tM n d m I D x=tM n d m I D a:=by rw[h]
@[congr]theorem aAX{v:V}{x a:dU}(h:x=a):E4 d m I D v x=E4 d m I D v a:=by rw[h]
@[go_sem]theorem azQ(s o:Nat)(H:ah)(b:Nat)(a:au):tM false s o H b (.cells a 0)=dw a o:=rfl
@[go_sem]theorem azR(s o:Nat)(H:ah)(b:Nat)(a:au):tM true s o H b (.cells a 0)=aq (cW (eH a o) s) λr=>some (.agg r):=rfl
@[go_sem]theorem T3(s o:Nat)(H:ah)(b:Nat)(v:V)(a:au):E4 s o H b v (.cells a 0)=aX (and (bM v) (bt (c_ (cellsOf v)) s)) (aX (dI (cellsOf v)) (aq (dj (cellsOf v) a o) λc=>some (V.undef,H.set b (.cells c 0)))):=rfl
@[go_sem]theorem IS(g:Bool)(s b o:Nat)(H:ah):jd g s [.ptr b o] H=tM g s o H b (H.get b):=by
 cases g
 .show H.load b o=_;unfold ah.load ah.cells? tM;cases H.get b with
  |cells c a=>cases e:H.gr b a<;>simp[e,aX,aq]
  |_=>rfl
 .show aq (H.dz b o s) _=_;unfold ah.dz ah.cells? tM;cases H.get b with
  |cells c a=>cases e:H.gr b a<;>simp[e,aX,aq]
  |_=>rfl
@[go_sem]theorem auY(s b o:Nat)(v:V)(H:ah):qB s [.ptr b o,v] H=E4 s o H b v (H.get b):=by
 show aX (and (bM v) (bt (c_ (cellsOf v)) s)) (aq (H.fe b o (cellsOf v)) λH=>some (V.undef,H))=_;cases e:H.get b with
 |cells a g=>
  cases g with
  |zero=>
   unfold ah.fe;rw[e];show aX _ (aq (aX (dI (cellsOf v)) (aq (dj (cellsOf v) a o) λc=>some (H.set b (.cells c 0)))) _)=_;rw[T3];cases dI (cellsOf v)with
   |false=>rfl
   |true=>cases dj (cellsOf v) a o<;>rfl
  |succ g=>rfl
 |none=>unfold ah.fe;rw[e];cases(and (bM v) (bt (c_ (cellsOf v)) s))<;>rfl
 |bV x y=>unfold ah.fe;rw[e];cases(and (bM v) (bt (c_ (cellsOf v)) s))<;>rfl
 |bW x=>unfold ah.fe;rw[e];cases(and (bM v) (bt (c_ (cellsOf v)) s))<;>rfl
attribute [go_sem] Int.toNat_natCast_add_one
theorem iG{l:IntKind}(h:0<=q/\q*d<=1099511627776/\q<=1099511627776):l_ d c [.int p q,.int l q]=some (.new (rep c q.toNat) (.slice q.toNat q.toNat)):=by
 obtain⟨m,rfl⟩:∃m:Nat,q=m:=⟨q.toNat,aa⟩;have a:m*d<=1099511627776:=by have:=h.2.1;rw[<-fF]at this;omega
 simp only[l_,show gZ (V.int p (m:Int))=some m from rfl,show gZ (V.int l (m:Int))=some m from rfl,By,cg];rw[lD (aJ m),lD (show fz m d<=1099511627776 from a),lD (aa:m<=1099511627776)];rfl
def tq{lo hi:Option V}{l h:Nat}(hl:Option.casesOn (motive:=λ_=>cq) lo (some 0) gZ=some l)(hh:Option.casesOn (motive:=λ_=>cq) hi (some d) gZ=some h)(a:l<=h)(b:h<=m):kK lo hi d m=some (l,h):=by unfold kK;rw[hh];show aq (Option.casesOn (motive:=λ_=>cq) lo (some 0) gZ) _=_;rw[hl];show aX (and (b6 h m) (b6 l h)) _=_;rw[lD b,lD a];rfl
theorem TS{l h:Nat}{lo hi:Option V}(j:af c=m*d)(b:kK lo hi m m=some (l,h))(f:l<=h)(g:h<=m):zX d m c lo hi none=some (.val (.row (h-l) ((c.drop (l*d)).take ((h-l)*d)))):=by
 show aq (kK lo hi m m) _=_;rw[b];show Bool.casesOn (motive:=λ_=>Option bh) (bt l h) _ _=_;by_cases e:l=h
 .simp_all
 .rw[show bt l h=false from mo.2 λa=>e ((beq_eq _ _).1 a)];show aq (cW (eH c (fz l d)) (fz (ko h l) d)) _=_;rw[l8,fB,ay]
  .rfl
  .have i:(h-l)*d<=(m-l)*d:=ei d aa
   grind [Nat.sub_mul,lB]
theorem EZ(b:af c=m*d)(a:0<=q/\q<=m):slice3 (kG d) false true false [.row m c,.int p q]=some (.val (.row q.toNat (c.take (q.toNat*d)))):=by show zX d m c none (some (.int p q)) none=_;rw[TS (l:=0) (h:=q.toNat) b (tq rfl (nr p a.1) (cj _) aa) (cj _) aa];simp
theorem aup(b:af c=m*d)(a:0<=q/\q<=m):slice3 (kG d) true false false [.row m c,.int p q]=some (.val (.row (m-q.toNat) (c.drop (q.toNat*d)))):=by show zX d m c (some (.int p q)) none none=_;rw[TS (l:=q.toNat) (h:=m) b (tq (nr p a.1) rfl aa (aJ _)) aa (aJ _)];simp_all [dr,lB,Nat.sub_mul,aJ]
section
variable {P:Program}{G:Nat}
variable{A:FuncId}
theorem MC{args:au}{Q:V->ah->Prop}{B:au}(W:I.get d=.cells B 0)(J:∃o n j,V.slice d o n j∈args)(K:dn I (I.set d .none) args c)
 (s:dD P G (.fn A) c (I.set d .none) Q):dD P G (.fn A) args I Q:=by
 refine⟨s.1,λC w z a M r=>?_⟩;obtain⟨l,hl⟩:∃l,C d=some l:=by
  obtain⟨o,n,j,N⟩:=J;obtain⟨i,hi⟩:=List.getElem?_of_mem N;obtain⟨x,_,O⟩:=r.get i _ hi;cases O with
  |slice h _ _=>exact⟨_,h⟩
 have f:Cut 0 I (I.set d .none):=by
  refine⟨λy=>?_,rfl,λy Z S T g H p q U=>?_⟩
  .simp_all [ah.aT,cj];omega
  .grind [ah.aT]
 have t:=a.zb f (cj _);have L:Ext C I w (C.eA I (I.set d .none) w) (I.set d .none) w:=by
  refine⟨t.rel,xR a,λp q=>absurd (p.symm.trans q) aI,λ{y} _ H _=>?_,aJ _,λ_ _=>rfl,aJ _,iQ.refl w,λ{y X} k m=>⟨?_,rfl⟩,t.oR⟩
  .rw[ah.aT,ao (λe=>by grind)]
  .grind [ah.aT]
 refine(s.2 (C.eA I (I.set d .none) w) w z (a.cut f) M (bu.eA a f K r)).mono ?_;rintro e Y ⟨v,R,u,D,k,m,E,F⟩;exact⟨v,R,u,D,k,L.trans m,E,F⟩
def kV{args args2:au}{b:Nat}{cs:au}(h:∀I,dD P G (.fn A) args2 I λv a=>v=l/\a=I)(i:I.get b=.cells cs 0)
 (f:∃o n c,V.slice b o n c∈args) (g:dn I (I.set b .none) args args2) (k:s (put j x l) (I.set b .none)):qH P G x s j I (some (.fn A,args)):=
 (MC i f g (h _)).mono λv a ⟨d,e⟩=>by rw[d,e];exact k
end
def aS.erase:aS->aS
 |.seq a b=>.seq a.erase b.erase
 |.cond x a b=>.cond x a.erase b.erase
 |.block id b=>.block id b.erase
 |.loop b=>.loop b.erase
 |.cut _ _ b=>b.erase
 |.skip=>.skip
 |.ret=>.ret
 |.exit id=>.exit id
 |.c7 l=>.c7 l
 |.om x c a b=>.om x c a b
def aS.qY(B n:Nat):aS->Prop
 |.seq a b=>a.qY B n/\b.qY B n
 |.cond _ a b=>a.qY B n/\b.qY B n
 |.block _ b=>b.qY B n
 |.loop b=>b.qY B n
 |.cut c d b=>B<=c/\n<=d/\b.qY B n
 |_=>True
def ajI{x y:aS}(h:aS.seq x y=J.erase)(d:¬∃B n c,J=aS.cut B n c):∃a b,J=.seq a b/\x=a.erase/\y=b.erase:=by
 cases J with
 |seq a b=>simp only[aS.erase,aS.seq.injEq]at h;exact⟨a,b,rfl,h⟩
 |cut B n c=>exact absurd ⟨B,n,c,rfl⟩ d
 |_=>simp only[aS.erase]at h;cases h
def ajC{x y:aS}{f:Fr->V}(h:aS.cond f x y=J.erase)(i:¬∃B n c,J=aS.cut B n c):∃a b,J=.cond f a b/\x=a.erase/\y=b.erase:=by
 cases J with
 |cond g a b=>simp only[aS.erase,aS.cond.injEq]at h;obtain⟨rfl,d,e⟩:=h;exact⟨a,b,rfl,d,e⟩
 |cut B n c=>exact absurd ⟨B,n,c,rfl⟩ i
 |_=>simp only[aS.erase]at h;cases h
def ajB{x:aS}(h:aS.block d x=J.erase)(e:¬∃B n b,J=aS.cut B n b):∃a,J=.block d a/\x=a.erase:=by
 cases J with
 |block j a=>simp only[aS.erase,aS.block.injEq]at h;obtain⟨rfl,c⟩:=h;exact⟨a,rfl,c⟩
 |cut B n b=>exact absurd ⟨B,n,b,rfl⟩ e
 |_=>simp only[aS.erase]at h;cases h
def ajE{x:aS}(h:aS.loop x=J.erase)(c:¬∃B n b,J=aS.cut B n b):∃a,J=.loop a/\x=a.erase:=by
 cases J with
 |loop a=>simp only[aS.erase,aS.loop.injEq]at h;exact⟨a,rfl,h⟩
 |cut B n b=>exact absurd ⟨B,n,b,rfl⟩ c
 |_=>simp only[aS.erase]at h;cases h
def ajF{l:List dW}(h:aS.c7 l=J.erase)(c:¬∃B n b,J=aS.cut B n b):J=.c7 l:=by
 cases J with
 |c7 a=>simp only[aS.erase,aS.c7.injEq]at h;rw[h]
 |cut B n b=>exact absurd ⟨B,n,b,rfl⟩ c
 |_=>simp only[aS.erase]at h;cases h
def Qc(h:aS.skip=J.erase)(b:¬∃B n a,J=aS.cut B n a):J=.skip:=by
 cases J with
 |skip=>rfl
 |cut B n a=>exact absurd ⟨B,n,a,rfl⟩ b
 |_=>simp only[aS.erase]at h;cases h
def ajG(h:aS.ret=J.erase)(b:¬∃B n a,J=aS.cut B n a):J=.ret:=by
 cases J with
 |ret=>rfl
 |cut B n a=>exact absurd ⟨B,n,a,rfl⟩ b
 |_=>simp only[aS.erase]at h;cases h
def ajD(h:aS.exit a=J.erase)(c:¬∃B n b,J=aS.cut B n b):J=.exit a:=by
 cases J with
 |exit j=>simp only[aS.erase,aS.exit.injEq]at h;rw[h]
 |cut B n b=>exact absurd ⟨B,n,b,rfl⟩ c
 |_=>simp only[aS.erase]at h;cases h
def ajH{x:Fr->V}{a b:Code}(h:aS.om x g a b=J.erase)(f:¬∃B n e,J=aS.cut B n e):J=.om x g a b:=by
 cases J with
 |om y i c d=>simp only[aS.erase]at h;exact h.symm
 |cut B n e=>exact absurd ⟨B,n,e,rfl⟩ f
 |_=>simp only[aS.erase]at h;cases h
def Cut.down{B:Nat}(h:B<=a)(c:Cut a b I):Cut B b I:=⟨λy=>(c.sub y).imp id λ⟨d,e⟩=>⟨c5 h d,e⟩,c.ag,c.bV⟩
section
variable {P:Program}{G B n:Nat}{N:fh}{T:c6}
def awF(hT:dH P T)(b_:kH P N)(fI:P.follows .mixedOrders=true):∀(m:Nat) (c:Code) (k:aS),SizeOf.sizeOf c+SizeOf.sizeOf k<=m->comp N T c=some k.erase->k.qY B n->codeOk G n c=true->∀(F:Fr) (H:ah) (Q:b5),wp P G k F H Q->iR P G B n false c F H Q:=by
 intro m;induction m with
 |zero=>intro c k v;cases k<;>simp at v
 |succ m w=>
  intro c k v d u s F H Q h;by_cases o:∃K M J,k=.cut K M J
  .obtain⟨K,M,J,rfl⟩:=o;obtain⟨R,U,p,q,Y⟩:=h;obtain⟨W,X,g3⟩:=u;refine Vi (p.down W) (λt ht=>q t (fy ht X)) (w c J ?_ d g3 s R U Q Y);simp at v;omega
  cases c with
  |skip=>have d:some aS.skip=some k.erase:=d;cases Qc (Option.some.inj d) o;exact F1 h
  |region id ac V=>obtain⟨l,Z,d⟩:=aB.1 (show aq (plan N T ac.toList V) (λl=>some (aS.c7 l))=some k.erase from d);cases ajF (Option.some.inj d) o;exact FX hT b_ fI s Z h
  |seq a b=>
   obtain⟨x,r,d⟩:=aB.1 (show aq (comp N T a) (λx=>aq (comp N T b) λy=>some (aS.seq x y))=some k.erase from d);obtain⟨y,E,d⟩:=aB.1 d;obtain⟨C,kb,rfl,rfl,rfl⟩:=ajI (Option.some.inj d) o;obtain⟨p,q⟩:=(de _ _).mp (show and (codeOk G n a) (codeOk G n b)=true from s);simp at v;refine F0 (Au (λe O S g=>?_) (w a C aa r u.1 p F H _ h));cases e with
   |norm=>exact w b kb aa E u.2 q O S Q g
   |ret=>exact g
   |exit i=>exact g
  |cond x a b=>
   obtain⟨f,L,d⟩:=aB.1 (show aq (gQ x) (λf=>aq (comp N T a) λx=>aq (comp N T b) λy=>some (aS.cond f x y))=some k.erase from d);obtain⟨ae,r,d⟩:=aB.1 d;obtain⟨y,E,d⟩:=aB.1 d;obtain⟨C,kb,rfl,rfl,rfl⟩:=ajC (Option.some.inj d) o;obtain⟨A,D⟩:=(de _ _).mp (show and (sC G n x) (and (codeOk G n a) (codeOk G n b))=true from s);obtain⟨p,q⟩:=(de _ _).mp D;simp at v;have z:uo (f F) (wp P G C F H Q) (wp P G kb F H Q):=h;unfold uo at z;split at z
   .rename_i e;exact At A L e (w a C aa r u.1 p F H Q z)
   .rename_i e;exact At A L e (w b kb aa E u.2 q F H Q z)
   .exact z.elim
  |block id b=>obtain⟨x,r,d⟩:=aB.1 (show aq (comp N T b) (λx=>some (aS.block id x))=some k.erase from d);obtain⟨kb,rfl,rfl⟩:=ajB (Option.some.inj d) o;simp at v;exact FT (w b kb aa r u s F H _ h)
  |loop b=>obtain⟨x,r,d⟩:=aB.1 (show aq (comp N T b) (λx=>some (aS.loop x))=some k.erase from d);obtain⟨kb,rfl,rfl⟩:=ajE (Option.some.inj d) o;obtain⟨I,j,p,q⟩:=h;simp at v;exact FW I (λi F H hi=>w b kb aa r u s F H _ (q i F H hi)) p
  |rangeFunc g ps a b=>
   obtain⟨x,r,d⟩:=aB.1 (show aq (gQ g) (λx=>some (aS.om x ps.toList a b))=some k.erase from d);cases ajH (Option.some.inj d) o;obtain⟨A,D⟩:=(de _ _).mp (show and (sC G n g) (and (codeOk G n a) (codeOk G n b))=true from s);obtain⟨p,q⟩:=(de _ _).mp D;obtain⟨f,first,captured,e,h⟩:=h
   exact K6 A r e (h n p q)
  |exit id=>have d:some (aS.exit id)=some k.erase:=d;cases ajD (Option.some.inj d) o;exact FU h
  |scope b=>simp at v;exact FZ (w b k aa d u s F H Q h)
  |label l=>have d:some aS.skip=some k.erase:=d;cases Qc (Option.some.inj d) o;exact FV h
  |goto l=>cases d
  |ret=>have d:some aS.ret=some k.erase:=d;cases ajG (Option.some.inj d) o;exact FY h
  |refuse l=>cases d
variable{A:FuncId}
def WZ(hT:dH P T)(b_:kH P N)(fI:P.follows .mixedOrders=true){fn:Func}{k:aS}{rs:List iC}(s:N.get aN A=some fn)(a:tw G N T fn=some (J,rs))(u:k.erase=J)
 {args:au}{Q:V->ah->Prop} (hl:b6 (c_ args) fn.ntmps=true) (p:k.qY b.ag fn.ntmps) (h:jJ P G k (gC rs Q) (mV args 0 .nil) b):dD P G (.fn A) args b Q:=by
 subst u;obtain⟨c,o,a⟩:=aB.1 a;cases j:uU G fn c with
 |false=>rw[j]at a;cases a
 |true=>
  rw[j]at a;obtain⟨v,t,a⟩:=aB.1 (show aq (comp N T c) (λJ=>aq (C9 T fn.results.toList) λr=>some (J,r))=some (k.erase,rs)from a);obtain⟨w,n,a⟩:=aB.1 a;cases a;have q:codeOk G fn.ntmps c=true:=by unfold uU at j;rw[de,de]at j;exact j.2.1
  refine Gu hT b_ s o (by rw[j,hl];rfl) (Au (λx m f g=>?_) (awF hT b_ fI _ c k (aJ _) t p q _ _ _ h));cases x with
  |exit i=>exact g.elim
  |norm=>
   refine⟨aI,?_⟩;have d:r3 Q f (m4 m f rs):=g;cases e:m4 m f rs with
   |none=>rw[e]at d;exact d.elim
   |some l=>rw[e]at d;exact⟨l,(EI n).trans e,d⟩
  |ret=>
   refine⟨aI,?_⟩;have d:r3 Q f (m4 m f rs):=g;cases e:m4 m f rs with
   |none=>rw[e]at d;exact d.elim
   |some l=>rw[e]at d;exact⟨l,(EI n).trans e,d⟩
end
def mI(f:Nat->V):Nat->Fr
 |0=>.nil
 |n+1=>put (mI f n) (some n) (f n)
def qu(f:Nat->V):∀ {n t:Nat},t<n->rd t (mI f n)=f t
 |n+1,t,h=>by
  show rd t (put (mI f n) (some n) (f n))=_;rw[JL];by_cases e:n=t
  .rw[ay e,e]
  .rw[ao e];exact qu f aa
section
variable {P:Program}{G:Nat}{F:Fr}{H:ah}{R:b5}
def Ft{B:Nat}(b:ah)(f:Nat->V)(d:Cut B H b)(e:∀t,t<a->bS H b (rd t F) (f t))(h:jJ P G J R (mI f a) b):jJ P G (.cut B a J) R F H:=⟨mI f a,b,d,λt c=>by rw[show(mI f a).get V.undef t=rd t (mI f a)from rfl,qu f c];exact e t c,h⟩
@[go_sem]theorem axS{F:Fr}{H:ah}(b:Bool)(c:cl):s0 P G b c x s F H (.aH [])=s (put F x V.undef) H:=rfl
def cQ(g:au->Option bh)(a:List (Fr->V)):cl:=.pu a g
@[go_sem↓]theorem axD(g:au->Option bh)(a:List (Fr->V)):ey P G (cQ g a) x F H s=gN x s F H (g (vals a F)):=rfl
end
def xx{a b c:Nat}(h:c<=1):cy [.int .u64 (a:Int),.int .u64 (b:Int),.int .u64 (c:Int)]=some (.val (.aH [.int .u64 (((a+b+c)%18446744073709551616:Nat):Int),.int .u64 (((a+b+c)/18446744073709551616:Nat):Int)])):=by show aX (b6 c 1) _=_;rw[lD h];rfl
def E_{a b c:Nat}(h:c<=1):cx [.int .u64 (a:Int),.int .u64 (b:Int),.int .u64 (c:Int)]=some (.val (.aH [.int .u64 (((a+18446744073709551616-b-c)%18446744073709551616:Nat):Int),.int .u64 ((if b+c<=a then 0 else 1:Nat):Int)])):=by
 show aX (b6 c 1) (some (bh.val (.aH [_,.int .u64 (.ofNat (Bool.casesOn (motive:=λ_=>Nat) (b6 (b+c) a) 1 0))])))=_;rw[lD h];by_cases e:b+c<=a
 .rw[lD e,ay e];rfl
 .rw[show b6 (b+c) a=false from mo.2 λd=>e ((fV _ _).1 d),ao e];rfl
inductive bn (H:ah) (sz:Nat):V->List V->Nat->Prop
 |nil:bn H sz .aA [] 0
 |cells {b n g f:Nat}{xs:List V} (hb:H.get b=.cells xs g) (hg:H.get g=.bV b f) (hf:f<=b) (h0:g≠0) (hn:af xs=n*sz) (hl:g<H.ag) (azm:b<H.ag):bn H sz (.slice b 0 n (.grown sz)) xs g
theorem wB(h:b.get m=.bV O D)(c:D<=a):b.gr a m=true:=gJ.2 (.inr ⟨O,D,h,c⟩)
theorem bn.other{v:V}{k:au}(h:bn b a v c D)(g:bn b m l k O)(s:b.ag<=I.ag)(r:∀y,y<b.ag->(O=0\/y≠O)->I.get y=b.get y)(t:O=0\/O≠D):bn I a v c D:=by
 cases h with
 |nil=>exact .nil
 |cells n q i e j hl p=>
  rename_i d B f;have o:O=0\/d≠O:=by
   cases g with
   |nil=>exact .inl rfl
   |cells kb x a_ u A z w=>grind
  exact .cells b4 b4 i e j aa aa
def bn.push{v:V}(h:bn b a v c m)(o:dU):bn (b.push o) a v c m:=by
 cases h with
 |nil=>exact .nil
 |cells i j f d g hl e=>exact .cells (by simp_all [ah.bl,ao];omega) (by simp_all [ah.bl,ao];omega) f d g (xh hl) (xh e)
theorem bn.set{v:V}{y:Nat}{cs:au}(h:bn b a v c m)(l:b.get y=.cells cs 0)(o:dU):bn (b.set y o) a v c m:=by
 cases h with
 |nil=>exact .nil
 |cells f j i d k hl g=>
  refine .cells ?_ ?_ i d k hl g
  .rw[ah.aT,ao (λe=>?_)]
   .exact f
   grind
  .rw[ah.aT,ao (λe=>?_)]
   .exact j
   grind
def bn.low{H':ah}{v:V}(h:bn b a v c m)(d:∀z,z<b.ag->H'.get z=b.get z)(l:b.ag<=H'.ag):bn H' a v c m:=by
 cases h with
 |nil=>exact .nil
 |cells f j i e k hl g=>exact .cells (by rw[d _ g];exact f) (by rw[d _ hl];exact j) i e k aa aa
def bn.slice{v:V}(h:bn I a v c m)(d:m≠0):∃b n,v=.slice b 0 n (.grown a):=by
 cases h with
 |nil=>exact absurd rfl d
 |cells f d i e j hl g=>exact⟨_,_,rfl⟩
theorem bn.ne{v:V}{cs:au}{k:Nat}(h:bn b a v c m)(l:b.get D=.cells cs k):m=0\/D≠m:=by
 cases h with
 |nil=>exact .inl rfl
 |cells e i g d j hl f=>grind
def bn.len{v:V}(h:bn b a v c m)(d:0<a):di v=some (.val (.int .i64 ((c.length/a:Nat):Int))):=by
 cases h with
 |nil=>simp[di];rfl
 |cells g l j f e hl i=>rw[e,Nat.mul_div_cancel _ d];rfl
def yW(h:b.get a=.cells c m)(hl:b.gr a m=true):b.cells? a=some c:=by unfold ah.cells?;rw[h];show aX (b.gr a m) _=_;rw[hl];rfl
def bn.dz{g:Nat}(h:bn b D (.slice a m O Y) c g)(k:Nat):b.dz a 0 k=cW c k:=by
 cases h with
 |cells d f e i l hl j=>unfold ah.dz;rw[yW d (wB f e)];show cW (eH c 0) k=_;rw[dQ]
def je(h:af c=a):cW c a=some c:=by simp_all [fB,ay,dr]
def bn.eA{H2:ah}{v:V}{j:au}(h:bn b a v c D)(p:0<a)(l:∀y,D≠0->b.get y=.cells c D->H2.get y=.none)(d:dn b H2 c j):∃n,bS b H2 v (.row n j)/\n*a=af c:=by
 cases h with
 |nil=>cases d;exact⟨0,.gK,aI⟩
 |cells g o m k i hl r=>
  rename_i q n f;refine⟨n,?_,i.symm⟩;by_cases e:n=0
  .subst e;have:c=[]:=List.length_eq_zero_iff.1 aa;subst this;cases d;exact .fQ _ _ _
  .refine .row (m:=n*a) ?_ (s_ (lC e) p) (l _ k g) d;unfold ah.dz;rw[yW g (wB o m)];show cW (eH c 0) (n*a)=_;rw[dQ,je i]
def sv(h:a≠0):fN a=false:=by
 cases a with
 |zero=>exact absurd rfl h
 |succ a=>rfl
def q5(h:a<=1099511627776/\a*m<=1099511627776):jx a m=true:=by unfold jx;simp_all
section
variable {P:Program}{G:Nat}{F:Fr}{H:ah}{d:cq}{K:cm}
theorem HW{bytes n:Nat}{v:V}{new:au}(k:bn H a v c m)(C:lI l=some n)(D:eu H a n l=some new)(J:n≠0)(hl:af new=n*a)(u:0<a)(L:dI new=true)(s:af c+af new<=1073741824/\bytes<=1024)(Q:H.ag≠0)
 (t:∀x i p,bn i a x (c++new) p->(m=0/\p=H.ag+1\/m≠0/\p=m)->(∀y,y<H.ag->(m=0\/y≠m)->i.get y=H.get y)->H.ag<i.ag->K (put F d x) i):gW d K F (fU a bytes [v,l] H):=by
 have z:fU a bytes [v,l] H=ku a bytes v n new H:=by show aq (lI l) (λn=>aq (eu H a n l) λnew=>ku a bytes v n new H)=_;rw[C];show aq (eu H a n l) _=_;rw[D];rfl
 have w:=sv J;have T:n<=n*a:=yJ n u;have B:∀(h:au) (g:Nat),af h=g*a->bn ((H.push (.cells h (Nat.succ H.ag))).push (.bV H.ag H.ag)) a (.slice H.ag 0 g (.grown a)) h (H.ag+1):=by
  intro h g I;refine .cells (f:=H.ag) ?_ ?_ (aJ _) aa I ?_ ?_
  .rw[ah.bl,ao (by show¬(H.ag+1=H.ag);omega),ah.bl,ay rfl]
  .rw[ah.bl,ay (show(H.push (.cells h (Nat.succ H.ag))).ag=H.ag+1 from rfl)]
  .show H.ag+1<H.ag+1+1;omega
  .show H.ag<H.ag+1+1;omega
 have A:∀(h:au) y,y<H.ag->((H.push (.cells h (Nat.succ H.ag))).push (.bV H.ag H.ag)).get y=H.get y:=by intro h y q;rw[ah.bl,ao (by show¬(H.ag+1=y);omega),ah.bl,ao aa]
 rw[z];cases k with
 |nil=>
  have o:ku a bytes .aA n new H=lG H a n new:=by show Bool.casesOn (motive:=λ_=>Option (V×ah)) (fN n) (aX (jx n bytes) (lG H a n new)) _=_;rw[w,q5 ⟨aa,c5 (iP (aa:n<=1073741824) s.2) ai⟩];rfl
  rw[o];exact t _ _ _ (B new n hl) (.inl ⟨rfl,rfl⟩) (λy q _=>A _ y q) (by show H.ag<H.ag+1+1;omega)
 |cells r k E j M R P=>
  rename_i b g f;have S:g<=g*a:=yJ g u;have G:H.dz b 0 (g*a)=some c:=by unfold ah.dz;rw[yW r (wB k E)];show cW (eH c 0) (g*a)=_;rw[dQ,je M]
  have o:ku a bytes (.slice b 0 g (.grown a)) n new H=some (.slice H.ag 0 (g+n) (.grown a),(H.push (.cells (c++new) m)).set m (.bV H.ag H.ag)):=by show Bool.casesOn (motive:=λ_=>Option (V×ah)) (fN n) (aX (jx (g+n) bytes) (aX (and (bt a a) (dI new)) (aq (H.dz b 0 (g*a)) λO=>oJ H a b (g+n) (dJ O new)))) _=_;rw[w,q5 ⟨aa,c5 (iP (aa:g+n<=1073741824) s.2) ai⟩,L,show bt a a=true from uA a,G];show oJ H a b (g+n) (dJ c new)=_;unfold oJ;rw[r];show dU.casesOn (motive:=λ_=>Option (V×ah)) (H.get m) _ _ _ _=_;rw[k];show aX (and (bt b b) (!(fN m))) _=_;rw[show bt b b=true from uA b,sv j,iW];rfl
  rw[o];refine t _ _ m ?_ (.inr ⟨j,rfl⟩) (λy q N=>?_) (by show H.ag<H.ag+1;omega)
  .refine .cells (f:=H.ag) ?_ ?_ (aJ _) j b4 ?_ ?_
   .simp_all [ah.aT,ao,ah.bl,ay];omega
   .rw[ah.aT,ay rfl]
   .show m<H.ag+1;omega
   .show H.ag<H.ag+1;omega
  .rw[ah.aT,ao (λe=>(N.resolve_left j) e.symm),ah.bl,ao aa]
end
def cV(l:aW):au:=l.map λc=>V.int .u8 (c.toNat:Int)
def Gk:∀l:aW,bytesOf (cV l)=some l
 |[]=>rfl
 |c::l=>by show aX (b6 (Nat.succ c.toNat) 256) (aq (bytesOf (cV l)) λr=>some (iD c.toNat::r))=_;rw[Gk l,lD (by have:=c.toNat_lt;omega)];show some (iD c.toNat::l)=_;simp
theorem j6(l:aW):af (cV l)=af l:=by simp[cV]
variable{C:aW}
def bn.str{v:V}(h:bn b 1 v (cV C) m):vt [v] b=some (.str C):=by
 cases d:v with
 |aA=>
  subst d;generalize e:cV C=g at h
  cases h;cases C with
  |nil=>rfl
  |cons a C=>cases e
 |slice i o n c=>
  subst d;have f:=h.dz n;generalize e:cV C=g at h f
  cases h with
  |cells l r q k u t p=>show aq (b.dz i 0 n) (λj=>aq (bytesOf j) λs=>some (V.str s))=some (V.str C);rw[f,je aa,<-e];show aq (bytesOf (cV C)) _=_;rw[Gk];rfl
 |_=>subst d;generalize cV C=g at h;cases h
def kM{H:ah}{bytes:Nat}{v:V}{new:au}(n:bn H a v c m)(hl:af new=a)(q:0<a)(p:dI new=true)(l:af c+a<=1073741824/\bytes<=1024)
 (o:∀f b e,bn b a f (c++new) e->(m=0/\H.ag<e\/m≠0/\e=m)->(∀y,y<H.ag->(m=0\/y≠m)->b.get y=H.get y)->H.ag<b.ag->s (put j x f) b):gW x s j (fU a bytes [v,.slice H.ag 0 1 (.known 1)] (H.push (.cells new 0))):=by
 refine HW (n:=1) (new:=new) (n.push _) rfl ?_ ai (by rw[hl,kn]) q p (by rw[hl];exact l) (Nat.succ_ne_zero _) ?_
 .show(H.push (.cells new 0)).dz H.ag 0 (1*a)=some new;simp_all [fO,ah.bl,ay,dQ,kn,je]
 .intro f b e g h2 h i;refine o f b e g ?_ (λy r t=>?_) ?_
  .rcases h2 with⟨h2,k⟩|h2
   .exact .inl ⟨h2,by rw[k];show H.ag<H.ag+1+1;omega⟩
   .exact .inr h2
  .rw[h y (xh r) t,ah.bl,ao aa]
  .exact Nat.lt_of_succ_lt i
def P2{bytes:Nat}{v:V}(i:bn b 1 v c a)(m:l.one=true)(h:af c+1<=1073741824/\bytes<=1024)
 (k:∀g e f,bn e 1 g (c++[l]) f->(a=0/\b.ag<f\/a≠0/\f=a)->(∀y,y<b.ag->(a=0\/y≠a)->e.get y=b.get y)->b.ag<e.ag->s (put j x g) e):gW x s j (fU 1 bytes [v,.slice b.ag 0 1 (.known 1)] (b.push (.cells [l] 0))):=
 kM i rfl ai (by show and l.one true=true;rw[m];rfl) h k
theorem Bb(h:b.gr D O=true):tM false a m b D (.cells c O)=dw c m:=by show(match b.gr D O,false with|true,false=>_|true,true=>_|false,_=>_)=_;rw[h]
section
mutual
def iE.free{E:Nat->Nat}{k:Nat}:∀ {v:V},bA v->iE E k v v
 |_,.bool b=>.bool b
 |_,.int k n=>.int k n
 |_,.str s=>.str s
 |_,.jV=>.jV
 |_,.aA=>.aA
 |_,.emp=>.emp
 |_,.lf=>.lf
 |_,.func f h1 h2=>.func f (k7.free h1) (k7.free h2)
 |_,.mc=>.mc
 |_,.me=>.me
 |_,.agg h=>.agg (k7.free h)
 |_,.aH h=>.aH (k7.free h)
 |_,.any=>.any _
 |_,.cell=>.cell rfl
 |_,.row n h=>.row n (k7.free h)
 |_,.dY j h=>.dY j (k7.free h)
 |_,.ie=>.ie
def k7.free{E:Nat->Nat}{k:Nat}:∀ {l:List V},ct l->k7 E k l l
 |_,.nil=>.nil
 |_,.cons h h'=>.cons (iE.free h) (k7.free h')
end
def qd(G b:Nat)(y:Nat):Nat:=if y=G then b else y
section
variable {P:Program}{G:Nat}{C:aL}{H:ah}{w:World}
def ah.one(G n:Nat)(a:au):ah:=⟨((ah.zero G).push (.cells a 0)).m,n⟩
theorem ah.mW{G:Nat}(y:Nat):(ah.one G a c).get y=if y=G then .cells c 0 else .none:=by
 show((ah.zero G).push (.cells c 0)).get y=_;rw[ah.bl,ah.hL];show(if G=y then _ else _)=_
 grind
theorem vA(h:C.view (qd G a) (G+1) d=some T):(d=G/\C a=some T)\/(d<G/\C d=some T):=by
 obtain⟨c,b⟩:=aL.o9 h;unfold qd at b
 grind
theorem Rel.one(b:Rel C H w)(E:H.get d=.cells c 0)(J:ct c)(M:G<=d):Rel (C.view (qd G d) (G+1)) (ah.one G (G+1) c) w:=by
 have u:∀ {y:Nat}{n:au}{g:Nat},(ah.one G (G+1) c).get y=.cells n g->y=G/\n=c/\g=0:=by
  intro y n g e;rw[ah.mW]at e;split at e
  .grind
  .cases e
 have O:∀ {y a B:Nat},(ah.one G (G+1) c).get y≠ .bV a B:=by intro y a B e;rw[ah.mW]at e;split at e<;>cases e
 refine⟨?_,?_,?_,?_,?_,?_,?_,?_,?_,?_,?_⟩
 .intro y l n g i v j m o D;obtain⟨rfl,rfl,rfl⟩:=u m;rcases vA j with⟨_,e⟩|⟨h,_⟩
  .obtain⟨K,z,A⟩:=b.cell e E rfl D;exact⟨K,z,aP.free (C:=C) (D:=C.view (qd y d) (y+1)) (λ_ _ e=>e) (ct.iff.1 J _ (fL D)) A⟩
  .omega
 .intro y l i e h;rcases vA e with⟨_,e⟩|⟨_,e⟩
  .exact b.room e h
  .exact b.room e h
 .intro y l n g j m;obtain⟨rfl,rfl,rfl⟩:=u m;rcases vA j with⟨_,e⟩|⟨h,_⟩
  .exact b.len e E
  .omega
 .intro y Q l P j m o N;rcases vA j with⟨z,p⟩|⟨z,p⟩<;>rcases vA m with⟨A,q⟩|⟨A,q⟩
  .omega
  .rcases b.inj p q o aa with⟨_,_,g,I,r,_⟩|⟨r,_⟩
   .grind
   grind
  .rcases b.inj q p o.symm aa with⟨_,_,g,I,r,_⟩|⟨r,_⟩
   .grind
   grind
  .exact .inr ⟨by rw[ah.mW,ao aa],by rw[ah.mW,ao aa]⟩
 .intro y F;have F:G+1<=y:=F;exact⟨ao aa,by rw[ah.mW,ao aa]⟩
 .intro y l e;rcases vA e with⟨_,e⟩|⟨_,e⟩
  .exact b.loc e
  .exact b.loc e
 .grind
 .grind
 .grind [ah.mW]
 .intro L x e;refine(b.gf e).keep rfl ?_;intro y l j m;rcases vA j with⟨_,f⟩|⟨k,_⟩
  .have:=(b.gf e).off _ _ f m
   grind
  .rw[ah.mW,ao aa]
 .intro y n g e;obtain⟨_,_,rfl⟩:=u e;exact mA _
variable{A:FuncId}
theorem ME{args args2:au}{R:V->au->Prop}(K:H.get d=.cells c 0)(ba:ct c)(a':G<=d)(hm:∃o,V.ptr d o∈args)(ha:k7 (qd G d) (G+1) args args2)
 (O:dD P G (.fn A) args2 (ah.one G (G+1) c) λv1 t=>∃v n,t.get G=.cells n 0/\ct n/\bS t (ah.one G t.ag n) v1 v/\bA v/\R v n):
 dD P G (.fn A) args H λv t=>∃n,R v n/\t=H.set d (.cells n 0):=by
 refine⟨O.1,λC w a6 q hg ar=>(O.2 (C.view (qd G d) (G+1)) w a6 (q.one K ba a') ?_ (bu.view ha ar)).mono ?_⟩
 .intro g bj;obtain⟨b',e⟩:=hg g bj;refine⟨b',aL.vB aa ?_⟩;show C (if g=G then d else g)=_
  grind
 .rintro e w' ⟨v1,v',t,D,rfl,s,bv,v,n,ch,bb,be,bc,hR⟩;obtain⟨F,Z⟩:∃l,C d=some l:=by
   obtain⟨o,hm⟩:=hm;obtain⟨i,hi⟩:=List.getElem?_of_mem hm;obtain⟨x,_,hx⟩:=ar.get i _ hi;cases hx with
   |ptr h=>exact⟨_,h⟩
  have cf:d<H.ag:=uC λh=>by
   have:=(q.top h).1
   grind
  have bs:C.view (qd G d) (G+1) G=some F:=aL.vB aa (by show C (if G=G then d else G)=_;grind);have ci:∀y,y<G->t.get y=.none:=by
   intro y m;have J:(ah.one G (G+1) c).get y=.none:=by rw[ah.mW,ao aa]
   cases b:C.view (qd G d) (G+1) y with
   |some l=>exact(s.kO b J).1
   |none=>rw[s.pK (aa:y<G+1) b (λa d j=>by rw[J]at j;cases j)];exact J
  have X:Cut (G+1) t (ah.one G t.ag n):=by
   refine⟨λy=>?_,rfl,λy y' c1 c2 g J E N h3=>?_⟩
   .rw[ah.mW]
    grind
   .grind [ah.mW]
  have S:=s.rel.cut X;have Q:=(s.sP (aJ (G+1))).trans (s.rel.zb X s.ag);have a2:=aP.eA s.rel X be bv;generalize D.eA t (ah.one G t.ag n) w'=B at S Q a2
  have ae:B G=some F:=Q.le (nO G) bs;have hz:(ah.one G t.ag n).get G=.cells n 0:=by rw[ah.mW,ay rfl]
  have a1:∀ {p:Nat},p<w.heap.size->F.c≠p->w'.heap[p]? =w.heap[p]? :=by
   intro p O a0;by_cases K:∃T l,C.view (qd G d) (G+1) T=some l/\l.c=p
   .obtain⟨T,l,b,rfl⟩:=K;rcases vA b with⟨_,A⟩|⟨k,_⟩
    .grind
    .exact(s.kO b (by rw[ah.mW,ao aa])).2
   .exact s.nA O (λd l b j=>K ⟨d,l,b,j⟩)
  have ap:∀ {y:Nat}{l:Loc},y≠d->C y=some l->F.c≠l.c:=by
   intro y l m e h;rcases q.inj Z e h (λe=>m e.symm)with⟨_,_,g,J,E,_⟩|⟨E,_⟩
   .grind
   .rw[K]at E;cases E
  have bd:∀p x,B.im p=some x->C.im p=some x\/w.heap.size<=p\/F.c=p:=by
   intro p x e;rcases Q.oR p x e with h|h|⟨T,l,E,N,h3⟩
   .exact .inl h
   .exact .inr (.inl h)
   .simp_all [vA,ah.mW,ao]
  have ab:C.le ⟨C.f,B.im⟩:=⟨λ_ _ e=>e,Q.zw⟩;have aw:∀ {x:V}{I:Value},bA x->aP B x I->aP ⟨C.f,B.im⟩ x I:=λh r=>aP.free (C:=B) (D:=⟨C.f,B.im⟩) (λ_ _ e=>e) h r
  have u:∀ {y:Nat},y≠d->(H.set d (.cells n 0)).get y=H.get y:=λh=>by simp_all [ah.aT,ao];omega
  have ad:(H.set d (.cells n 0)).get d=.cells n 0:=by rw[ah.aT,ay rfl]
  have bo:Rel ⟨C.f,B.im⟩ (H.set d (.cells n 0)) w':=by
   refine⟨?_,λb j=>s.same.free (q.room b j),?_,?_,?_,λb=>fy (q.loc b) s.size,?_,?_,?_,?_,?_⟩
   .intro y l U g i x b j z W;by_cases m:y=d
    .subst m;rw[ad]at j;cases j;have b:C y=some l:=b;rw[Z]at b;cases b;obtain⟨I,L,M⟩:=S.cell ae hz rfl W;exact⟨I,L,aw (ct.iff.1 bb _ (fL W)) M⟩
    .rw[u m]at j;have hl:H.gr y g=true:=by
      rcases gJ.1 z with e|⟨a,p,ce,a7⟩
      .exact gJ.2 (.inl e)
      .refine gJ.2 (.inr ⟨a,p,?_,a7⟩)
       grind
     obtain⟨I,L,M⟩:=q.cell b j hl W;refine⟨I,?_,M.mono ab⟩;unfold World.cell? at L⊢
     grind
   .intro y l U g b j;by_cases m:y=d
    .subst m;rw[ad]at j;cases j;have b:C y=some l:=b;rw[Z]at b;cases b;exact S.len ae hz
    .rw[u m]at j;exact q.len b j
   .intro y y' l l' b j z a0;have m:y≠d:=λe=>by grind
    have b1:y'≠d:=λe=>by grind
    rw[u m,u b1];exact q.inj b j z a0
   .intro y m;have m:H.ag<=y:=m;obtain⟨E,N⟩:=q.top m
    grind
   .intro y U g b2 br b j z;have m:y≠d:=λe=>by grind
    have Y:g≠d:=λe=>by grind
    rw[u m]at b;rw[u Y]at z;exact q.mem b j z
   .intro g b2 br z;have Y:g≠d:=λe=>by grind
    rw[u Y]at z;exact q.n7 z
   .intro y l o b j;have m:y≠d:=λe=>by grind
    rw[u m]at j;obtain⟨L,M⟩:=q.bW b j;exact⟨L,M.mono ab (a1 (q.loc b) (ap m b))⟩
   .intro p x e;have hi:=S.gf e;refine⟨hi.obj,hi.kind,λy l b j=>?_⟩;have b:C y=some l:=b;rcases bd p x e with h|h|h
    .have h3:=(q.gf h).off y l b j
     grind
    .have:=q.loc b;omega
    .have:=hi.off G F ae h
     grind
   .intro y U g e;by_cases m:y=d
    .rw[m,ad]at e;cases e;show 0<H.ag;omega
    .rw[u m]at e;exact q.n9 e
  refine⟨v,v',H.set d (.cells n 0),⟨C.f,B.im⟩,rfl,⟨bo,ab,λE N=>absurd (E.symm.trans N) aI,?_,aJ _,?_,s.size,s.same,?_,?_⟩,aw bc a2,n,hR,rfl⟩
  .grind
  .grind
  .intro y l b j;have m:y≠d:=λe=>by grind
   exact⟨by rw[u m];exact j,a1 (q.loc b) (ap m b)⟩
  grind
end
end
def Io(n:Nat)(H:ah):V->V->Bool:=
 Nat.rec (motive:=λ_=>V->V->Bool) (λ_ _=>false) (λ_ c v d=>match v,d with
  |.slice b o k _,.row f a=>and (bt k f) (match k,a with
    |0,[]=>true
    |0,_=>false
    |_,[]=>false
    |_,_=>(match H.dz b o (c_ a)with
     |some e=>gq c e a
     |none=>false))
  |.aA,.row 0 []=>true
  |.emp,.row 0 []=>true
  |.ie,.row 0 []=>true
  |.agg x,.agg y=>gq c x y
  |.aH x,.aH y=>gq c x y
  |v,d=>uf 20 v d) n
def DR{f:V->V->Bool}(g:∀v i,f v i=true->bS b I v i):∀ {l c:au},gq f l c=true->dn b I l c
 |[],[],_=>.nil
 |[],_::_,h=>by cases h
 |_::_,[],h=>by cases h
 |a::l,e::c,h=>by have d:and (f a e) (gq f l c)=true:=h;rw[de]at d;exact .cons (g a e d.1) (DR g d.2)
def akA:∀(n:Nat) (v g:V),Io n b v g=true->bS b (ah.zero d) v g:=by
 intro n;induction n with
 |zero=>intro v g h;cases h
 |succ n i=>
  intro v g h;have q:uf 20 v g=true->bS b (ah.zero d) v g:=λh=>by rw[KC _ _ _ h];exact .same _
  unfold Io at h;simp only at h;split at h
  .rename_i k o m c s j;rw[de]at h;obtain⟨p,f⟩:=h;have e:=(beq_eq _ _).1 p;subst e;cases m with
   |zero=>
    cases j with
    |nil=>exact .fQ _ _ _
    |cons a l=>cases f
   |succ m=>
    cases j with
    |nil=>cases f
    |cons a l=>
     simp only at f;cases hl:b.dz k o (c_ (a::l))with
     |none=>rw[hl]at f;cases f
     |some r=>rw[hl]at f;exact .row hl (mA _) (ah.hL _ _) (DR i f)
  .exact .gK
  .exact .EO
  .exact .EN
  .exact .agg (DR i h)
  .exact .aH (DR i h)
  .exact q h
def DE(n:Nat):V->Bool:=
 Nat.rec (motive:=λ_=>V->Bool) (λ_=>false) (λ_ a v=>match v with
  |.bool _=>true
  |.int _ _=>true
  |.str _=>true
  |.jV=>true
  |.aA=>true
  |.agg x=>nC a x
  |.aH x=>nC a x
  |.row _ x=>nC a x
  |_=>false) n
def DI{f:V->Bool}(a:∀v,f v=true->bA v)(h:nC f c=true):ct c:=ct.iff.2 λv b=>a v (wv.1 h v b)
def Qg:∀(n:Nat) (v:V),DE n v=true->bA v:=by
 intro n;induction n with
 |zero=>intro v h;cases h
 |succ n a=>intro v h;unfold DE at h;cases v<;>first|(exact .bool _)|(exact .int _ _)|(exact .str _)|(exact .jV)|(exact .aA)|(exact .agg (DI a h))|(exact .aH (DI a h))|(exact .row _ (DI a h))|(cases h)
def ec(G:Nat)(C:kW)(f:FuncId)(args:au)(r:V):Bool:=
 match C (.fn f) args (ah.zero G)with
 |some (v,H)=>and (Io 20 H v r) (and (DE 20 r) (nC (DE 20) args))
 |none=>false
variable{A:FuncId}
def eo{P:Program}{C:kW}(g:qG P a C){args:au}(h:ec a C A args l=true):∀H,dD P a (.fn A) args H λv b=>v=l/\b=H:=by
 unfold ec at h;cases e:C (.fn A) args (ah.zero a)with
 |none=>rw[e]at h;cases h
 |some x=>obtain⟨v,b⟩:=x;rw[e]at h;simp only[de]at h;obtain⟨c,d,f⟩:=h;have i:=Qg _ _ d;refine rB (R:=λv=>v=l) (DI (Qg 20) f) ((g e).mono ?_);rintro k j ⟨rfl,rfl⟩;exact⟨l,akA _ _ _ c,i,rfl⟩
def aS.m0:aS->Bool
 |.seq a b=>a.m0&&b.m0
 |.cond _ a b=>a.m0&&b.m0
 |.block _ b=>b.m0
 |.loop b=>b.m0
 |.cut _ _ _=>false
 |_=>true
def aS.cutAt(B n:Nat):Nat->aS->aS
 |d+1,.seq a b=>.seq a (aS.cutAt B n d b)
 |0,c=>.cut B n c
 |_+1,c=>c
def x7:∀ {c:aS},c.m0=true->c.erase=c
 |.seq a b,h=>by have h:=(de _ _).mp (show(a.m0&&b.m0)=true from h);show aS.seq _ _=_;rw[x7 h.1,x7 h.2]
 |.cond x a b,h=>by have h:=(de _ _).mp (show(a.m0&&b.m0)=true from h);show aS.cond _ _ _=_;rw[x7 h.1,x7 h.2]
 |.block i b,h=>by show aS.block _ _=_;rw[x7 (c:=b) h]
 |.loop b,h=>by show aS.loop _=_;rw[x7 (c:=b) h]
 |.cut _ _ _,h=>by cases h
 |.skip,_=>rfl
 |.ret,_=>rfl
 |.exit _,_=>rfl
 |.c7 _,_=>rfl
 |.om ..,_=>rfl
def x8{B:Nat}:∀ {c:aS},c.m0=true->c.qY B d
 |.seq a b,h=>by have h:=(de _ _).mp (show(a.m0&&b.m0)=true from h);exact⟨x8 h.1,x8 h.2⟩
 |.cond x a b,h=>by have h:=(de _ _).mp (show(a.m0&&b.m0)=true from h);exact⟨x8 h.1,x8 h.2⟩
 |.block i b,h=>x8 (c:=b) h
 |.loop b,h=>x8 (c:=b) h
 |.cut _ _ _,h=>by cases h
 |.skip,_=>trivial
 |.ret,_=>trivial
 |.exit _,_=>trivial
 |.c7 _,_=>trivial
 |.om ..,_=>trivial
def MV{B:Nat}:∀ {d:Nat}{c:aS},(aS.cutAt B m d c).erase=c.erase
 |d+1,.seq a b=>by show aS.seq _ (aS.cutAt B m d b).erase=aS.seq _ _;rw[MV]
 |0,c=>by cases c<;>rfl
 |_+1,.cond _ _ _=>rfl
 |_+1,.block _ _=>rfl
 |_+1,.loop _=>rfl
 |_+1,.cut _ _ _=>rfl
 |_+1,.skip=>rfl
 |_+1,.ret=>rfl
 |_+1,.exit _=>rfl
 |_+1,.c7 _=>rfl
 |_+1,.om .. =>rfl
def MW{B:Nat}(e:B<=D)(f:m<=O):∀ {d:Nat}{c:aS},c.qY B m->(aS.cutAt D O d c).qY B m
 |d+1,.seq a b,h=>⟨h.1,MW e f h.2⟩
 |0,c,h=>by cases c<;>exact⟨e,f,h⟩
 |_+1,.cond _ _ _,h=>h
 |_+1,.block _ _,h=>h
 |_+1,.loop _,h=>h
 |_+1,.cut _ _ _,h=>h
 |_+1,.skip,h=>h
 |_+1,.ret,h=>h
 |_+1,.exit _,h=>h
 |_+1,.c7 _,h=>h
 |_+1,.om ..,h=>h
section
variable {P:Program}{G:Nat}{N:fh}{T:c6}
def C4(hT:dH P T)(b_:kH P N)(fI:P.follows .mixedOrders=true){fn:Func}{rs:List iC}(c:N.get aN A=some fn)(e:tw G N T fn=some (J,rs))(a:J.m0=true)(d n:Nat)(f:b6 fn.ntmps n=true)
 {args:au}{Q:V->ah->Prop} (hl:b6 (c_ args) fn.ntmps=true) (h:jJ P G (aS.cutAt b.ag n d J) (gC rs Q) (mV args 0 .nil) b):dD P G (.fn A) args b Q:=
 WZ hT b_ fI c e (MV.trans (x7 a)) hl (MW (aJ _) ((fV _ _).1 f) (x8 a)) h
end
def Ej(H:ah):Nat->aY dU
 |0=>.nil
 |k+1=>(Ej H k).set .none k (H.get k)
def ah.low(H:ah)(k:Nat):ah:=⟨Ej H k,H.ag⟩
def ah.kN(H:ah):∀(k y:Nat),(H.low k).get y=if y<k then H.get y else .none
 |0,y=>by rw[ao (nP _)];exact aY.get_nil _ _
 |k+1,y=>by
  show((Ej H k).set .none k (H.get k)).get .none y=_;rw[aY.aT];by_cases e:k=y
  .rw[ay e,ay aa,e]
  .rw[ao e];have:=ah.kN H k y;rw[show(Ej H k).get .none y=(H.low k).get y from rfl,this];by_cases h:y<k
   .rw[ay h,ay aa]
   .rw[ao h,ao aa]
theorem C_{B:Nat}(k:B<=a)(hl:∀y c g,y<a->b.get y=.cells c g->g=0):Cut B b (b.low a):=by
 refine⟨λy=>?_,rfl,λy l d e g f h i j=>?_⟩
 .simp_all [ah.kN,ay,ao];omega
 .rw[ah.kN]
  grind
def bn.amn{v:V}(h:bn b a v c d)(e:d≠0):∃g f,b.get d=.bV g f:=by
 cases h with
 |nil=>exact absurd rfl e
 |cells j i l e m hl k=>exact⟨_,_,i⟩
theorem bn.xO{v:V}(h:bn b a v c d)(j:∀g f,b.get m≠ .bV g f):d=0\/m≠d:=by
 by_cases i:d=0
 .exact .inl i
 .obtain⟨g,f,e⟩:=h.amn i
  grind
theorem bn.A3{v:V}(h:bn b d v c D)(f:0<d)(hl:∀y e D,y<a->b.get y=.cells e D->D=0)(k:af c=m*d):bS b (b.low a) v (.row m c):=by
 obtain⟨n,i,j⟩:=h.eA (H2:=b.low a) f (λy g l=>by
  rw[ah.kN,ao]
  grind) (dn.refl _)
 grind [Nat.eq_of_mul_eq_mul_right]
def xM{bytes n:Nat}{cs:au}(h:b.get d=.cells [] 0)(p:0<n)(f:af cs=n*a)(q:0<a)(k:n<=1073741824/\bytes<=1024)
 (l:∀g c,bn c a g cs (b.ag+1)->(∀y,y<b.ag->c.get y=b.get y)->c.ag=b.ag+2->s (put j x g) c):gW x s j (fU a bytes [.slice d 0 0 (.known 0),.row n cs] b):=by
 have i:eu b a n (.row n cs)=some cs:=je f;have e:fU a bytes [.slice d 0 0 (.known 0),.row n cs] b=lG b a n cs:=by
  show aq (some n) (λn=>aq (eu b a n (.row _ cs)) λm=>ku a bytes (.slice d 0 0 (.known 0)) n m b)=_;show aq (eu b a n (.row n cs)) _=_;rw[i];show Bool.casesOn (motive:=λ_=>Option (V×ah)) (fN n) (aX (jx (0+n) bytes) (Bool.casesOn (motive:=λ_=>Option (V×ah)) (b6 (0+n) 0) (aq (b.dz d 0 (0*a)) λo=>lG b a (0+n) (dJ o cs)) (aq (b.fe d (0+0*a) cs) λb=>some (V.slice d 0 (0+n) (.known 0),b)))) _=_;rw[sv aa,q5 ⟨aa,c5 (iP (aa:0+n<=1073741824) k.2) ai⟩,show b6 (0+n) 0=false from by
   cases n with
   |zero=>omega
   |succ n=>rw[eW];rfl,fO h]
  simp only[j4,dQ,Bi,By,Eu,Eb,eW]
 rw[e];refine l _ _ (.cells (f:=b.ag) ?_ ?_ (aJ _) aa f ?_ ?_) (λy r=>?_) rfl
 .rw[ah.bl,ao (by show¬(b.ag+1=b.ag);omega),ah.bl,ay rfl]
 .rw[ah.bl,ay (show(b.push (.cells cs (Nat.succ b.ag))).ag=b.ag+1 from rfl)]
 .show b.ag+1<b.ag+1+1;omega
 .show b.ag<b.ag+1+1;omega
 .rw[ah.bl,ao (by show¬(b.ag+1=y);omega),ah.bl,ao aa]
def IQ:∀s t:aW,gq o8 s t=decide (s=t)
 |[],[]=>rfl
 |[],_::_=>rfl
 |_::_,[]=>rfl
 |a::s,b::t=>by
  show and (o8 a b) (gq o8 s t)=_;rw[IQ s t,Ky];by_cases c:a=b
  .by_cases d:s=t
   .simp[c,d]
   .simp[d]
  .simp[c]
@[go_sem]theorem WH(s t:aW):sK (tD .eql) [.str s,.str t]=some (.val (.bool (decide (s=t)))):=by show jw (gq o8 s t)=_;rw[IQ];rfl
@[go_sem]theorem ayK(s t:aW):sK (tD .neq) [.str s,.str t]=some (.val (.bool (!decide (s=t)))):=by show jw (!(gq o8 s t))=_;rw[IQ];rfl
theorem J'{lo hi:Option V}{l h:Nat}(a:kK lo hi C.length (af C)=some (l,h))(b:l<=h)(c:h<=af C):yj C lo hi=some (.val (.str ((C.drop l).take (h-l)))):=by unfold yj;rw[iw,a];show aq (cW (eH C l) (h-l)) _=_;rw[l8,fB,ay b4];rfl
theorem B8(h:0<=q/\q<=af C):slice3 ov true false false [.str C,.int p q]=some (.val (.str (C.drop q.toNat))):=by
 show yj C (some (.int p q)) none=_;rw[J' (l:=q.toNat) (h:=C.length) (tq (nr p h.1) rfl aa (aJ _)) aa (aJ _)]
 grind [dr,lB]
theorem Kf(a:0<=q/\q<=af C):slice3 ov false true false [.str C,.int p q]=some (.val (.str (C.take q.toNat))):=by show yj C none (some (.int p q))=_;rw[J' (l:=0) (h:=q.toNat) (tq rfl (nr p a.1) aa aa) aa aa];simp
def u0{c:UInt8}(a:0<=q)(h:C[q.toNat]? =some c):oa [.str C,.int p q]=some (.val (.int .u8 (c.toNat:Int))):=by show aq (gZ (.int p q)) _=_;rw[nr p a];show aq (dw C q.toNat) _=_;rw[iu,h];rfl
def uG(P:Program)(G:Nat)(b:Bool)(d:cq)(l:List dW)(Q:cm)(F:Fr)(H:ah)(r:Option V)(v:V):Prop:=match q8 b v with
 |some true=>rO P G d l Q F H r
 |some false=>g_ P G l F H Q
 |none=>False
@[congr]theorem ax_{P:Program}{c:List dW}{r d:Option V}{v:V}(h:r=d)(e:v=l):uG P a n x c s j b r v=uG P a n x c s j b d l:=by rw[h,e]
section
variable {P:Program}{G:Nat}{F:Fr}{H:ah}{Q:cm}
@[go_sem↓]theorem ayj(j:Nat)(b:Bool)(i:Nat)(g:Bool)(s:Nat)(x:Fr->V)(l:List dW):k5 P G (rg j b i (bG g s x)::l) Q F H=uG P G b (some i) l Q F H (jd g s [x F] H) (rd j F):=by
 show(yw ⟨λF=>q8 b (rd j F),some i,.rd [x] (jd g s)⟩ F H/\g_ P G l F H Q)=_;unfold uG;apply propext;cases e:q8 b (rd j F)with
 |none=>
  refine⟨λ⟨h,_⟩=>?_,False.elim⟩;rcases h with h|⟨h,_⟩
  .grind
  grind
 |some y=>
  cases y with
  |false=>exact⟨λh=>h.2,λh=>⟨.inl e,h⟩⟩
  |true=>show _↔rO P G (some i) l Q F H (jd g s [x F] H);unfold rO;rw[Ld (w:=λF=>q8 b (rd j F)) e];exact Iff.rfl
@[go_sem]theorem ayc(d:cq)(l:List dW)(r:Option V):uG P G true d l Q F H r (.bool true)=rO P G d l Q F H r:=rfl
@[go_sem]theorem ax'(d:cq)(l:List dW)(r:Option V):uG P G false d l Q F H r (.bool false)=rO P G d l Q F H r:=rfl
@[go_sem]theorem ayb(d:cq)(l:List dW)(r:Option V):uG P G true d l Q F H r (.bool false)=k5 P G l Q F H:=rfl
@[go_sem]theorem aya(d:cq)(l:List dW)(r:Option V):uG P G false d l Q F H r (.bool true)=k5 P G l Q F H:=rfl
@[go_sem]theorem ayd(b:Bool)(d:cq)(l:List dW)(r:Option V):uG P G b d l Q F H r (.aH [])=k5 P G l Q F H:=rfl
end
def ah.nW(T:ah)(n:Nat):ah:=⟨T.m,n⟩
theorem ah.sq(T:ah)(n y:Nat):(T.nW n).get y=T.get y:=rfl
structure Ar (G:Nat) (T:ah):Prop where
 ag:T.ag=G
 top:∀y,G<=y->T.get y=.none
 low:∀y,T.get y=.none\/∃cs,T.get y=.cells cs 0/\ct cs
theorem Ar.cells(h:Ar a b)(e:b.get d=.cells c m):d<a/\m=0/\ct c:=by
 refine⟨uC λi=>?_,?_⟩
 .rw[h.top d i]at e;cases e
 .rcases h.low d with g|⟨j,g,k⟩
  .rw[g]at e;cases e
  grind
def Has(H T:ah):Prop:=∀y a,T.get y=.cells a 0->H.get y=.cells a 0
section
variable {P:Program}{G:Nat}{C:aL}{H T:ah}{w:World}
theorem Rel.Cb(f:Rel C H w)(hT:Ar G T)(m:Has H T):Rel (C.view id G) T w:=by
 have z:∀ {y:Nat},H.get y=.none->T.get y=.none:=by
  intro y e;rcases hT.low y with h|⟨d,h,_⟩
  .exact h
  .rw[m y d h]at e;cases e
 refine⟨?_,?_,?_,?_,?_,?_,?_,?_,?_,?_,?_⟩
 .intro y l d g i v b a j r;obtain⟨k,rfl,s⟩:=hT.cells a;obtain⟨E,A,B⟩:=f.cell (aL.o9 b).2 (m y d a) rfl r;exact⟨E,A,aP.free (C:=C) (D:=C.view id G) (λ_ _ e=>e) (ct.iff.1 s _ (fL r)) B⟩
 .intro y l i e h;exact f.room (aL.o9 e).2 h
 .intro y l d g b a;obtain⟨k,rfl,s⟩:=hT.cells a;exact f.len (aL.o9 b).2 (m y d a)
 .intro y q l p b a j n;right;have u:∀ {y q:Nat}{l p:Loc},C y=some l->C q=some p->l.c=p.c->y≠q->T.get y=.none:=by
   intro y q l p b a j n;rcases hT.low y with h|⟨d,h,_⟩
   .exact h
   .rcases f.inj b a j n with⟨_,_,g,I,k,_⟩|⟨k,_⟩
    .rw[m y d h]at k;grind
    grind
  exact⟨u (aL.o9 b).2 (aL.o9 a).2 j n,u (aL.o9 a).2 (aL.o9 b).2 j.symm (λe=>n e.symm)⟩
 .intro y t;rw[hT.ag]at t;exact⟨ao aa,hT.top y t⟩
 .intro y l e;exact f.loc (aL.o9 e).2
 .intro y d g D br b a j;exact absurd (hT.cells b).2.1 a
 .intro g D br e;rcases hT.low g with h|⟨d,h,_⟩
  .rw[h]at e;cases e
  .rw[h]at e;cases e
 .intro y l o b a;rcases hT.low y with h|⟨d,h,_⟩
  .rw[h]at a;cases a
  grind
 .intro F x e;refine(f.gf e).keep rfl ?_;intro y l b a;exact z ((f.gf e).off _ _ (aL.o9 b).2 a)
 .intro y d g e;obtain⟨k,rfl,_⟩:=hT.cells e;rw[hT.ag];omega
theorem asD(hT:Ar G T){args:au}{R:V->Prop}(ha:ct args)
 (Q:dD P G (.fn A) args T λv1 s=>Has s T/\∃v,bS s (T.nW s.ag) v1 v/\bA v/\R v) (H:ah) (I:Has H T):
 dD P G (.fn A) args H λv s=>R v/\s=H:=by
 refine⟨Q.1,λC w a0 p hg a5=>(Q.2 (C.view id G) w a0 (p.Cb hT I) ?_ (bu.free (C:=C) (D:=C.view id G) (λ_ _ e=>e) ha a5)).mono ?_⟩
 .intro g a9;obtain⟨bs,e⟩:=hg g a9
  grind [aL.vB]
 .rintro e w' ⟨v1,v',s,D,rfl,q,bb,ad,v,a7,W,hR⟩;have bj:∀y,y<G->s.get y=T.get y:=by
   intro y B;rcases hT.low y with u|⟨d,u,_⟩
   .rw[u];cases j:C.view id G y with
    |some l=>exact(q.kO j u).1
    |none=>rw[q.pK (by rw[hT.ag];exact B) j (λa b k=>by rw[u]at k;cases k)];exact u
   .rw[u];exact ad y d u
  have U:Cut G s (T.nW s.ag):=by
   refine⟨λy=>?_,rfl,λy E c1 c2 g u n t J=>?_⟩
   .rw[ah.sq];by_cases B:y<G
    .grind
    .exact .inr ⟨k4 B,hT.top y (k4 B)⟩
   .rw[ah.sq];rcases hT.low E with h|⟨d,h,_⟩
    .exact h
    .rw[ad E d h]at t;grind
  have Z:=q.rel.cut U;have L:=(q.sP (B:=G) (by rw[hT.ag];exact aJ _)).trans (q.rel.zb U (by have:=q.ag;rw[hT.ag]at this;exact this));have ar:=aP.eA q.rel U a7 bb;generalize D.eA s (T.nW s.ag) w'=F at Z L ar
  have Y:∀ {m:Nat},m<w.heap.size->(∀y l d,C y=some l->l.c=m->T.get y≠ .cells d 0)->w'.heap[m]? =w.heap[m]? :=by
   intro m Q bo;by_cases hb:∃b l,C.view id G b=some l/\l.c=m
   .obtain⟨b,l,j,rfl⟩:=hb;rcases hT.low b with h|⟨d,h,_⟩
    .exact(q.kO j h).2
    grind [aL.o9]
   .exact q.nA Q (λb l j k=>hb ⟨b,l,j,k⟩)
  have ae:∀ {y:Nat}{l:Loc},(∀d,T.get y≠ .cells d 0)->C y=some l->∀E O d,C E=some O->O.c=l.c->T.get E≠ .cells d 0:=by
   intro y l B e E O d e' a6 z;have a':E≠y:=λk=>B d (k▸z)
   rcases p.inj e' e a6 a' with⟨_,_,g,u,n,_⟩|⟨n,_⟩
   .rw[I E d z]at n;grind
   .rw[I E d z]at n;cases n
  have am:∀m x,F.im m=some x->C.im m=some x\/w.heap.size<=m\/∃b l d,C b=some l/\F b=some l/\l.c=m/\T.get b=.cells d 0:=by
   intro m x e;rcases L.oR m x e with h|h|⟨b,l,n,t,J⟩
   .exact .inl h
   .exact .inr (.inl h)
   .rcases hT.low b with h|⟨d,h,_⟩
    .exact absurd h J
    .exact .inr (.inr ⟨b,l,d,(aL.o9 n).2,L.le (aL.o9 n).1 n,t,h⟩)
  have X:C.le ⟨C.f,F.im⟩:=⟨λ_ _ e=>e,L.zw⟩;have ap:∀ {x:V}{K:Value},bA x->aP F x K->aP ⟨C.f,F.im⟩ x K:=λh r=>aP.free (C:=F) (D:=⟨C.f,F.im⟩) (λ_ _ e=>e) h r
  have ba:Rel ⟨C.f,F.im⟩ H w':=by
   refine⟨?_,λj k=>q.same.free (p.room j k),p.len,p.inj,p.top,λj=>fy (p.loc j) q.size,p.mem,p.n7,?_,?_,p.n9⟩
   .intro y l bi g i x j k a2 S;have j:C y=some l:=j;by_cases z:∃d,T.get y=.cells d 0
    .obtain⟨d,z⟩:=z;rw[I y d z]at k;cases k;obtain⟨B,_,W⟩:=hT.cells z;obtain⟨K,M,N⟩:=Z.cell (L.le B (aL.vB B j)) z rfl S;exact⟨K,M,ap (ct.iff.1 W _ (fL S)) N⟩
    .obtain⟨K,M,N⟩:=p.cell j k a2 S;refine⟨K,?_,N.mono X⟩;unfold World.cell? at M⊢
     grind
   .intro y l o j k;obtain⟨M,N⟩:=p.bW j k;refine⟨M,N.mono X (Y (p.loc j) (ae (λd h=>?_) j))⟩;rw[I y d h]at k;cases k
   .intro m x e;have hi:=Z.gf e;refine⟨hi.obj,hi.kind,λy l j k=>?_⟩;rcases am m x e with h|h|⟨b,O,d,n,t,J,h4⟩
    .exact(p.gf h).off y l j k
    .have:=p.loc j;omega
    .have:=hi.off b O t J
     grind [ah.sq]
  refine⟨v,v',H,⟨C.f,F.im⟩,rfl,⟨ba,X,λn t=>absurd (n.symm.trans t) aI,λ_ _ _=>rfl,aJ _,λn t=>Y n (λy l d j k=>absurd k (t y l j)),q.size,q.same,λ{y l} j k=>⟨k,Y (p.loc j) (ae (λd h=>?_) j)⟩,λm x e=>?_⟩,ap W ar,hR,rfl⟩
  .rw[I y d h]at k;cases k
  .rcases am m x e with h|h|⟨b,l,d,n,t,J,h4⟩
   .exact .inl h
   .exact .inr (.inl h)
   .exact .inr (.inr ⟨b,l,n,J,by rw[I b d h4];simp⟩)
end
mutual
inductive g9 (b:Nat):V->V->Prop
 |any (v:V):g9 b v .any
 |int (k:IntKind) (n:Int):g9 b (.int k n) (.int k n)
 |bool (x:Bool):g9 b (.bool x) (.bool x)
 |str (s:List UInt8):g9 b (.str s) (.str s)
 |aA:g9 b .aA .aA
 |slice (o n:Nat) (c:Cap):g9 b (.slice b o n c) (.slice b o n c)
 |fQ:g9 b (.row 0 []) (.row 0 [])
 |aH {xs ys:List V} (h:nR b xs ys):g9 b (.aH xs) (.aH ys)
 |agg {xs ys:List V} (h:nR b xs ys):g9 b (.agg xs) (.agg ys)
inductive nR (b:Nat):List V->List V->Prop
 |nil:nR b [] []
 |cons {x y:V}{xs ys:List V} (h:g9 b x y) (h':nR b xs ys):nR b (x::xs) (y::ys)
end
def g9.ii:g9 a (.int p q) (.int p q):=.int _ _
def g9.ss:g9 a (.str C) (.str C):=.str _
def g9.bb:g9 a (.bool n) (.bool n):=.bool _
def nR.f1{a:V}(b:g9 d a l):nR d [a] [l]:=.cons b .nil
def nR.f2{a b c:V}(e:g9 d a b)(f:g9 d l c):nR d [a,l] [b,c]:=.cons e (.f1 f)
def nR.f3{a c b e f:V}(g:g9 d a b)(h:g9 d l e)(i:g9 d c f):nR d [a,l,c] [b,e,f]:=.cons g (.f2 h i)
def nR.f4{a c g b e f h:V}(i:g9 d a b)(j:g9 d l e)(k:g9 d c f)(m:g9 d g h):nR d [a,l,c,g] [b,e,f,h]:=.cons i (.f3 j k m)
def nR.f5{a c h e b f g i j:V}(k:g9 d a b)(m:g9 d l f)(n:g9 d c g)(o:g9 d h i)(p:g9 d e j):nR d [a,l,c,h,e] [b,f,g,i,j]:=.cons k (.f4 m n o p)
mutual
def aP.x_{C D:aL}{b:Nat}(hb:∀l,C b=some l->D b=some l):∀ {v v2:V}{v':Value},g9 b v v2->aP C v v'->aP D v2 v'
 |_,_,v',.any _,_=>.any v'
 |_,_,_,.int _ _,.int k n=>.int k n
 |_,_,_,.bool _,.bool x=>.bool x
 |_,_,_,.str _,.str s=>.str s
 |_,_,_,.aA,.aA=>.aA
 |_,_,_,.slice _ _ _,.slice h h1 h2=>.slice (hb _ h) h1 h2
 |_,_,_,.fQ,.fQ a c h=>.fQ a c h
 |_,_,_,.fQ,.row _ _ _ _=>.fQ _ _ (λh=>by cases h)
 |_,_,_,.aH h,.aH g=>.aH (bu.x_ hb h g)
 |_,_,_,.agg h,.agg g=>.agg (bu.x_ hb h g)
def bu.x_{C D:aL}{b:Nat}(hb:∀l,C b=some l->D b=some l):∀ {v v2:List V}{v':List Value},nR b v v2->bu C v v'->bu D v2 v'
 |_,_,_,.nil,.nil=>.nil
 |_,_,_,.cons h h',.cons g g'=>.cons (aP.x_ hb h g) (bu.x_ hb h' g')
end
section
variable {P:Program}{G:Nat}
def C'(H:ah):Cut 0 H (ah.zero H.ag):=⟨λ_=>.inr ⟨cj _,ah.hL _ _⟩,rfl,λ_ _ _ _ _ _ _ _ _=>ah.hL _ _⟩
theorem MB{args:au}{R:V->Nat->au->Prop}(ha:dn b (ah.zero b.ag) args c)
 (hc:dD P G (.fn A) c (ah.zero b.ag) λv1 z=>∃v f s,g9 f v1 v/\b.ag<=f/\f<z.ag/\z.get f=.cells s 0/\(∀x∈s,∃k n,x=.int k n)/\R v f s):
 dD P G (.fn A) args b λv z=>∃f s,R v f s/\b.ag<=f/\f<z.ag/\∀y,z.get y=if y=f then .cells s 0 else b.get y:=by
 refine⟨hc.1,λC w aw q hg a4=>(hc.2 (C.eA b (ah.zero b.ag) w) w aw (q.cut (C' b)) hg (bu.eA q (C' b) ha a4)).mono ?_⟩;rintro e w' ⟨v1,v',z,D,rfl,r,bd,v,f,s,a',ab,a5,ad,bc,hR⟩;have a8:=xR (H2:=ah.zero b.ag) q;have X:b.ag<=z.ag:=r.ag;have a1:C f=none:=(q.top ab).1;have ba:∀ {y:Nat}{l:Loc},C y=some l->w'.heap[l.c]? =w.heap[l.c]? :=λ{y l} d=>(r.kO (show(C.eA b (ah.zero b.ag) w) y=some l from d) (ah.hL _ _)).2
 have S:∀ {l:Loc},D f=some l->w.heap.size<=l.c:=by
  intro l d;rcases(r.fresh (show(C.eA b (ah.zero b.ag) w) f=none from a1) d).2 with h|⟨Z,l0,j,B⟩
  .exact h
  .have bs:C Z=some l0:=j;have a9:Z≠f:=λe=>by grind
   rcases r.rel.inj (r.le _ _ j) d B a9 with⟨_,_,g,_,F,_⟩|⟨_,F⟩
   .grind
   grind
 let M:aL:=⟨λy=>if y=f then D f else C y,C.im⟩;let J:ah:=⟨(b.set f (.cells s 0)).m,z.ag⟩;have T:∀y,J.get y=if y=f then .cells s 0 else b.get y:=by
  intro y;show(b.set f (.cells s 0)).get y=_;rw[ah.aT];by_cases p:y=f
  .grind
  .grind
 have t:∀ {y:Nat},y≠f->J.get y=b.get y:=λ{y} h=>by rw[T,ao h]
 have ae:J.get f=.cells s 0:=by rw[T,ay rfl]
 have E:M f=D f:=ay rfl;have u:∀ {y:Nat},y≠f->M y=C y:=λ{y} h=>ao h
 have W:C.le M:=⟨λy l e=>by grind,λ_ _ e=>e⟩
 have bb:Rel M J w':=by
  refine⟨?_,?_,?_,?_,?_,?_,?_,?_,?_,?_,?_⟩
  .intro y l Q g i x d j B I;by_cases p:y=f
   .subst p;rw[ae]at j;cases j;rw[E]at d;obtain⟨Y,L,F⟩:=r.rel.cell d ad rfl I;obtain⟨k,n,rfl⟩:=bc x (fL I);refine⟨Y,L,?_⟩;cases F;exact .int _ _
   .rw[t p]at j;rw[u p]at d;have hl:b.gr y g=true:=by
     rcases gJ.1 B with e|⟨a,H,bv,a0⟩
     .exact gJ.2 (.inl e)
     .refine gJ.2 (.inr ⟨a,H,?_,a0⟩)
      grind
    obtain⟨Y,L,F⟩:=q.cell d j hl I;refine⟨Y,?_,F.mono W⟩;unfold World.cell? at L⊢
    grind
  .intro y l i d j;by_cases p:y=f
   .subst p;rw[E]at d;exact r.rel.room d j
   .rw[u p]at d;exact r.same.free (q.room d j)
  .intro y l Q g d j;by_cases p:y=f
   .subst p;rw[ae]at j;cases j;rw[E]at d;exact r.rel.len d ad
   .rw[t p]at j;rw[u p]at d;exact q.len d j
  .intro y y' l l' d j B I;by_cases p:y=f
   .subst p;have K:y'≠y:=λe=>I e.symm
    rw[E]at d;rw[u K]at j;have N:=S d;have O:=q.loc j;omega
   .by_cases K:y'=f
    .subst K;rw[E]at j;rw[u p]at d;have N:=S j;have O:=q.loc d;omega
    .rw[t p,t K];rw[u p]at d;rw[u K]at j;exact q.inj d j B I
  .intro y p;have be:z.ag<=y:=p;have al:y≠f:=aa;rw[u al,t al];exact q.top (c5 X be)
  .intro y l d;by_cases p:y=f
   .subst p;rw[E]at d;exact r.rel.loc d
   .rw[u p]at d;exact fy (q.loc d) r.size
  .intro y Q g bj br d j B;have p:y≠f:=λh=>by grind
   have U:g≠f:=λh=>by grind
   rw[t p]at d;rw[t U]at B;exact q.mem d j B
  .intro g bj br d;have U:g≠f:=λh=>by grind
   rw[t U]at d;exact q.n7 d
  .intro y l o d j;have p:y≠f:=λh=>by grind
   rw[t p]at j;rw[u p]at d;obtain⟨L,F⟩:=q.bW d j;exact⟨L,F.mono W (ba d)⟩
  .intro H x d;have hi:=q.gf (show C.im H=some x from d);have a7:=r.rel.gf (r.le.im H x (a8.im H x d));refine hi.keep (a7.obj.trans hi.obj.symm) λy l j B=>?_
   by_cases p:y=f
   .subst p;rw[E]at j;have N:=S j;have O:=hi.lt;omega
   .rw[u p]at j;rw[t p];exact hi.off y l j B
  .intro y Q g d;show g<z.ag;by_cases p:y=f
   .grind
   .rw[t p]at d;exact fy (q.n9 d) X
 refine⟨v,v',J,M,rfl,⟨bb,W,?_,?_,X,λN O=>r.nA N O,r.size,r.same,?_,λH x e=>.inl e⟩,aP.x_ (λl e=>by rw[E];exact e) a' bd,f,s,hR,ab,a5,T⟩
 .grind
 .grind
 grind
theorem yV{args:au}{R:V->Prop}(I:dn b (ah.zero b.ag) args c)
 (t:dD P G (.fn A) c (ah.zero b.ag) λz _=>∃v,(∀k,g9 k z v)/\R v):
 dD P G (.fn A) args b λv j=>R v/\j=b:=by
 refine⟨t.1,λC w E d K J=>(t.2 (C.eA b (ah.zero b.ag) w) w E (d.cut (C' b)) K (bu.eA d (C' b) I J)).mono ?_⟩;rintro e B ⟨z,S,j,D,rfl,h,Q,v,N,H⟩;have M:=xR (H2:=ah.zero b.ag) d;have u:∀ {y:Nat}{l:Loc},C y=some l->B.heap[l.c]? =w.heap[l.c]? :=λ{y l} a=>(h.kO (show(C.eA b (ah.zero b.ag) w) y=some l from a) (ah.hL _ _)).2
 have O:Rel C b B:=by
  refine⟨?_,λa f=>h.same.free (d.room a f),d.len,d.inj,d.top,λa=>fy (d.loc a) h.size,d.mem,d.n7,?_,?_,d.n9⟩
  .intro k l U g i x a f n F;obtain⟨T,r,s⟩:=d.cell a f n F;refine⟨T,?_,s⟩;unfold World.cell? at r⊢
   grind
  .intro k l o a f;obtain⟨r,s⟩:=d.bW a f;exact⟨r,s.mono (aL.le_refl C) (u a)⟩
  .intro m x a;have hi:=d.gf a;have L:=h.rel.gf (h.le.im m x (M.im m x a));exact hi.keep (L.obj.trans hi.obj.symm) λy l f n=>hi.off y l f n
 refine⟨v,S,b,C,rfl,⟨O,aL.le_refl C,λp q=>absurd (p.symm.trans q) aI,λ_ _ _=>rfl,aJ _,λp q=>h.nA p q,h.size,h.same,λa f=>⟨f,u a⟩,λm x e=>.inl e⟩,aP.x_ (b:=j.ag) (λl e=>by rw[(h.rel.top (aJ _)).1]at e;cases e) (N j.ag) Q,H,rfl⟩
end
def Aw(ds:List TypeDesc)(a b:V):Option Bool:=match a with
 |.agg x=>(match b with|.agg y=>oM ds x y|_=>aN)
 |_=>aN
def cI(ds:List TypeDesc)(z:V)(a:Bool)(x y:Fr->V):cl:=.rd [x,y] (wD (Aw ds) z a)
def cN(ds:List TypeDesc)(x y z:Fr->V):cl:=.hG [x,y,z] (Aa (Aw ds))
def cM:cl:=.hG [] IW
def cR(x:Fr->V):cl:=.hG [x] BL
def cP(x:Fr->V):cl:=.od x
def cG(x:Fr->V):cl:=.rd [x] uS
section
variable {P:Program}{G:Nat}{d:cq}{F:Fr}{H:ah}{K:cm}
@[go_sem↓]theorem axm(ds:List TypeDesc)(z:V)(a:Bool)(x y:Fr->V):ey P G (cI ds z a x y) d F H K=tc d K F H (wD (Aw ds) z a [x F,y F] H):=rfl
@[go_sem↓]theorem axv(ds:List TypeDesc)(x y z:Fr->V):ey P G (cN ds x y z) d F H K=gW d K F (Aa (Aw ds) [x F,y F,z F] H):=rfl
@[go_sem↓]theorem axr:ey P G cM d F H K=K (put F d (.map H.ag)) (H.push (.bW (.map []))):=rfl
@[go_sem↓]theorem axE(x:Fr->V):ey P G (cR x) d F H K=gW d K F (BL [x F] H):=rfl
@[go_sem↓]theorem axB(x:Fr->V):ey P G (cP x) d F H K=CD (x F) H λv a=>K (put F d v) a:=rfl
@[go_sem↓]theorem axf(x:Fr->V):ey P G (cG x) d F H K=tc d K F H (uS [x F] H):=rfl
end
def Ko{R c:b5}{b:cm}(d:∀F H,s F H->b F H)(h:∀x F H,R x F H->c x F H):∀x F H,gy s R x F H->gy b c x F H:=by
 intro x F H a;cases x with
 |norm=>exact d _ _ a
 |ret=>exact h _ _ _ a
 |exit i=>exact h _ _ _ a
theorem wp_mono{P:Program}:∀(c:aS) {F:Fr}{H:ah}{Q g:b5},(∀x F H,Q x F H->g x F H)->wp P m c F H Q->wp P m c F H g
 |.skip,_,_,_,_,h,d=>h _ _ _ d
 |.ret,_,_,_,_,h,d=>h _ _ _ d
 |.exit _,_,_,_,_,h,d=>h _ _ _ d
 |.c7 _,_,_,_,_,h,d=>g_.mono (λF H=>h .norm F H) d
 |.seq a b,_,_,_,_,h,d=>wp_mono a (Ko (λ_ _=>wp_mono b h) h) d
 |.cond x a b,F,H,Q,g,h,d=>by
  have d:uo (x F) (wp P m a F H Q) (wp P m b F H Q):=d;show uo (x F) (wp P m a F H g) (wp P m b F H g);unfold uo at d⊢;split
  .rename_i e;rw[e]at d;exact wp_mono a h d
  .rename_i e;rw[e]at d;exact wp_mono b h d
  .split at d
   .contradiction
   .contradiction
   .exact d
 |.block id b,_,_,Q,g,h,d=>wp_mono b (λx F H j=>by
  cases x with
  |norm=>exact h _ _ _ j
  |ret=>exact h _ _ _ j
  |exit i=>
   have j:if i=id then Q .norm F H else Q (.exit i) F H:=j
   show if i=id then g .norm F H else g (.exit i) F H
   grind) d
 |.loop b,_,_,_,_,h,⟨I,k,u,hi⟩=>⟨I,k,u,λy F H w=>wp_mono b (Ko (λ_ _ h=>h) h) (hi y F H w)⟩
 |.om _ _ _ _,_,_,_,_,h,⟨f,a,b,e,d⟩=>⟨f,a,b,e,λn l o=>(d n l o).mono λ_ _ ⟨L,r,s,x,g3,t⟩=>⟨L,r,s,x,g3,h _ _ _ t⟩⟩
 |.cut _ _ b,_,_,_,_,h,⟨p,q,l,o,v⟩=>⟨p,q,l,o,wp_mono b h v⟩
def rW(P:Program)(G:Nat)(b:aS)(R:b5):Nat->cm
 |0,_,_=>False
 |n+1,F,H=>jJ P G b (gy (rW P G b R n) R) F H
def ug{P:Program}{R:b5}(n:Nat)(h:rW P a J R n j b):jJ P a (.loop J) R j b:=by
 refine b8 (rW P a J R) n h ?_;intro k e g c;cases k with
 |zero=>exact c.elim
 |succ k=>exact wp_mono J (Ko (λf i d=>⟨k,nO k,d⟩) (λ_ _ _ h=>h)) c
theorem k3{P:Program}{R:b5}(n:Nat)(F:Fr)(H:ah):rW P a J R (n+1) F H=jJ P a J (gy (rW P a J R n) R) F H:=rfl
def W3{P:Program}{N:fh}{T:c6}(hT:dH P T)(b_:kH P N)(fI:P.follows .mixedOrders=true){args:au}{Q:V->ah->Prop}{L:uk}(r:b.qn m=some L){F:Fr}(s:params0 L.params args L.F=some F){ka kb:aS}(p:comp N T L.assign=some ka)(q:comp N T L.body=some kb)
 (t:vg L.assign=true) (u:vg L.body=true) (j:codeOk a L.n L.assign=true) (k:codeOk a L.n L.body=true)
 (h:jJ P a ka (λx i d=>x=.norm/\∃c,d.qn m=some c/\c.st=0/\jJ P a kb (λx _ f=>∃g,f.qn m=some g/\Q (.bool (DZ x)) (f.set m (.bW (.loop { g with st:=E5 x,pM:=u5 x })))) i (d.set m (.bW (.loop { c with st:=1 })))) F b):dD P a (.jZ m) args b Q:=
 W2 r s (Au (λ_ _ _ ⟨e,c,l,o,g3⟩=>⟨e,c,l,o,KH hT b_ fI true L.body kb q (λ_=>u) k _ _ _ g3⟩) (KH hT b_ fI true L.assign ka p (λ_=>t) j _ _ _ h))
def QA{bytes:Nat}(h:a<=1073741824/\bytes<=1024):a<=1099511627776/\a*bytes<=1099511627776:=⟨aa,c5 (iP h.1 h.2) ai⟩
def auo{s b n c:Nat}{k:IntKind}{h:Int}(a:0<=h/\h<=c):slice3 (kG s) false true false [.slice b 0 n (.least c),.int k h]=some (.val (.slice b 0 h.toNat (.least c))):=by show B4 b 0 n c none (some (.int k h))=_;unfold B4;rw[tq (l:=0) (h:=h.toNat) rfl (nr k a.1) (cj _) aa];rfl
def VW{bytes n:Nat}{zs:au}{k:IntKind}(h:1<=n/\n<=1073741824/\bytes<=1024):Az bytes zs [.aA,.int k (n:Int)]=some (.new (rep zs n) (.least n)):=by show aq (gZ (.int k (n:Int))) (λn=>aX (and (b6 1 n) (jx n bytes)) (some (bh.new (rep zs n) (.least n))))=_;rw[nr k aa,cg];show aX (and (b6 1 n) (jx n bytes)) _=_;rw[show b6 1 n=true from Nat.ble_eq_true_of_le h.1,q5 (QA h.2)];rfl
theorem P3{bytes:Nat}{xs ys rest:au}(k:b.get d=.cells (xs++(ys++rest)) 0)(u:af xs=m*a)(y:af ys=D*a)(h:lI l=some D)(i:eu b a D l=some c)(w:af c=D*a)(p:m+D<=O)(n:m+D<=1073741824/\bytes<=1024)(q:dI c=true)
 (o:s (put j x (.slice d 0 (m+D) (.least O))) (b.set d (.cells (xs++(c++rest)) 0))) (v:0<D):gW x s j (fU a bytes [.slice d 0 m (.least O),l] b):=by
 have t:b.fe d (0+m*a) c=some (b.set d (.cells (xs++(c++rest)) 0)):=by
  unfold ah.fe;rw[k];show aX (dI c) (aq (dj c (xs++(ys++rest)) (0+m*a)) λf=>some (b.set d (.cells f 0)))=_;rw[q];have r:dj c (xs++(ys++rest)) (0+m*a)=some (xs++(c++rest)):=by
   rw[mH,ay b4];congr 1;rw[eW,<-u,vL];have e:af xs+af c=af (xs++ys):=b4
   grind
  rw[r];rfl
 have g:fU a bytes [.slice d 0 m (.least O),l] b=some (.slice d 0 (m+D) (.least O),b.set d (.cells (xs++(c++rest)) 0)):=by show aq (lI l) (λD=>aq (eu b a D l) λc=>ku a bytes (.slice d 0 m (.least O)) D c b)=_;rw[h];show aq (eu b a D l) _=_;rw[i];show Bool.casesOn (motive:=λ_=>Option (V×ah)) (fN D) (aX (jx (m+D) bytes) (aX (b6 (m+D) O) (aq (b.fe d (0+m*a) c) λb=>some (V.slice d 0 (m+D) (.least O),b)))) (some (.slice d 0 m (.least O),b))=_;rw[sv aa,q5 (QA n),show b6 (m+D) O=true from Nat.ble_eq_true_of_le p,t];rfl
 rw[g];exact o
mutual
inductive kI:V->V->Prop
 |same (v:V):kI v v
 |gK:kI .aA (.row 0 [])
 |agg {xs ys:List V} (h:nh xs ys):kI (.agg xs) (.agg ys)
 |aH {xs ys:List V} (h:nh xs ys):kI (.aH xs) (.aH ys)
inductive nh:List V->List V->Prop
 |nil:nh [] []
 |cons {x y:V}{xs ys:List V} (h:kI x y) (h':nh xs ys):nh (x::xs) (y::ys)
end
def kI.mm{v:V}:kI v v:=.same v
def nh.f1{a:V}(b:kI a l):nh [a] [l]:=.cons b .nil
def nh.f2{a b c:V}(d:kI a b)(e:kI l c):nh [a,l] [b,c]:=.cons d (.f1 e)
def nh.f3{a c b d e:V}(f:kI a b)(g:kI l d)(h:kI c e):nh [a,l,c] [b,d,e]:=.cons f (.f2 g h)
def nh.f4{a c d b e f g:V}(h:kI a b)(i:kI l e)(j:kI c f)(k:kI d g):nh [a,l,c,d] [b,e,f,g]:=.cons h (.f3 i j k)
mutual
def aP.nz{C:aL}:∀ {v v2:V}{v':Value},kI v v2->aP C v v'->aP C v2 v'
 |_,_,_,.same _,r=>r
 |_,_,_,.gK,.aA=>.fQ none 0 (λ_=>rfl)
 |_,_,_,.agg h,.agg g=>.agg (bu.nz h g)
 |_,_,_,.aH h,.aH g=>.aH (bu.nz h g)
def bu.nz{C:aL}:∀ {v v2:List V}{v':List Value},nh v v2->bu C v v'->bu C v2 v'
 |_,_,_,.nil,.nil=>.nil
 |_,_,_,.cons h h',.cons g g'=>.cons (aP.nz h g) (bu.nz h' g')
end
variable{G:V->ah->Prop}
def C3{P:Program}{args:au}(f:nh args c)(d:dD P a (.fn A) c b G):dD P a (.fn A) args b G:=⟨d.1,λC w e i h g=>d.2 C w e i h (bu.nz f g)⟩
inductive vS (H:ah) (args:List V):Nat->Prop
 |arg {b o n:Nat}{c:Cap} (h:V.slice b o n c∈args):vS H args b
 |cell {b b' o n:Nat}{c:Cap}{cs:List V} (h:vS H args b') (hb:H.get b'=.cells cs 0) (hm:V.slice b o n c∈cs):vS H args b
variable{r:World}{F:List Value}
def vS.named{P:Program}{args:au}(g:Rel o b r)(e:bu o args F)(h:vS b args a):∃l,o a=some l:=by
 induction h with
 |arg c=>
  obtain⟨i,hi⟩:=List.getElem?_of_mem c;obtain⟨x,_,d⟩:=e.get i _ hi;cases d with
  |slice h _ _=>exact⟨_,h⟩
 |cell _ f c j=>
  obtain⟨l,hl⟩:=j;obtain⟨i,hi⟩:=List.getElem?_of_mem c;obtain⟨x,_,d⟩:=g.cell hl f (gJ.2 (.inl rfl)) hi;cases d with
  |slice h _ _=>exact⟨_,h⟩
theorem W0{P:Program}{args:au}{H:ah}(bs:av)(d:ah)(B:∀b∈bs,(∃t,H.get b=.cells t 0)/\vS H args b)(i:∀y,d.get y=if y∈bs then .none else H.get y)(I:d.ag=H.ag)(z:dn H d args c)
 (p:dD P a (.fn A) c d G):dD P a (.fn A) args H G:=by
 refine⟨p.1,λC w s f F o=>?_⟩;have j:Cut 0 H d:=by
  refine⟨λy=>?_,I,λy S L M g h n N O=>?_⟩
  .grind
  .grind
 have q:=f.zb j (cj _);have E:Ext C H w (C.eA H d w) d w:=by
  refine⟨q.rel,xR f,λn i=>absurd (n.symm.trans i) aI,λ{y} _ h _=>?_,aa,λ_ _=>rfl,aJ _,iQ.refl w,λ{y Q} k m=>⟨?_,rfl⟩,q.oR⟩
  .rw[i,ao];intro J;obtain⟨l,hl⟩:=(B y J).2.named (P:=P) f o;rw[hl]at h;cases h
  .grind
 refine(p.2 (C.eA H d w) w s (f.cut j) F (bu.eA f j z o)).mono ?_;rintro e R ⟨v,K,r,D,k,m,u,x⟩;exact⟨v,K,r,D,k,E.trans m,u,x⟩
def u8(n:Nat):UInt8:=iD n
theorem Kx(n:Nat):u8 (no_index (OfNat.ofNat n))=OfNat.ofNat n:=rfl
def UB(v:V):V:=match v with
 |.str l=>.str (lmap (λc=>u8 c.toNat) l)
 |v=>v
def eI(x:Operand):Fr->V:=match x with
 |.tmp t=>rd t
 |.const v=>kc (Option.casesOn (motive:=λ_=>V) (ow 20 v) .undef UB)
 |.global g=>kc (.ptr g 0)
 |.func f=>kc (.func f [] [])
def lg(d:f)(x:Option f):f:=Option.casesOn (motive:=λ_=>f) x d (λa=>a)
def Ag(T:c6)(t:TypeId):au:=lmap UB (lg [] (zeroCells T t))
def qy(T:c6)(t:TypeId):Nat:=lg 0 (iZ T t)
def Bz(N:Nat->Option (au->Option bh))(T:c6)(o:Op):cl:=match o with
 |.move x=>mv (eI x)
 |.assign x=>bJ (eI x)
 |.pick c a b=>pick (eI c) (eI a) (eI b)
 |.alloc t=>alloc (Ag T t)
 |.box _ x=>box (eI x)
 |.build t parts=>(match T.bI t with
   |some (.struct h)=>cv (lmap (λp=>lg (0,0) (dw (lg [] (DM T h.toList)) p.1)) parts.toList) (Ag T t) (lmap (λp=>eI p.2) parts.toList)
   |some (.array _ e)=>cv (lmap (λp=>(p.1*qy T e,qy T e)) parts.toList) (Ag T t) (lmap (λp=>eI p.2) parts.toList)
   |_=>.bad)
 |.buildSlice t n parts=>(match T.bI t with
   |some (.slice e)=>cn n (lmap (λp=>(p.1*qy T e,qy T e)) parts.toList) (Ag T e) (lmap (λp=>eI p.2) parts.toList)
   |_=>.bad)
 |.load t a=>bG (lg false (T.isAgg t)) (qy T t) (eI a)
 |.store t a v=>st (qy T t) (eI a) (eI v)
 |.nilCheck x=>cO (eI x)
 |.binOp j t x y _=>(match T.bI t with
   |some (.int _)=>bi j (eI x) (eI y)
   |some .string=>bs j (eI x) (eI y)
   |some (.struct _)=>ba (lg [] (T.zW t)) (eI x) (eI y)
   |some d=>be (match j with|.neq=>true|_=>false) d (eI x) (eI y)
   |_=>.bad)
 |.unOp j _ x=>(match j with|.neg=>neg (eI x)|.not=>not (eI x)|_=>.bad)
 |.convert s d x=>(match T.bI s,T.bI d with
   |some (.int _),some (.int k)=>bQ k (eI x)
   |some .string,some (.slice _)=>cC (eI x)
   |some (.slice _),some .string=>cD (eI x)
   |_,_=>.bad)
 |.makeFunc (.func f) a b=>cL f (c_ a.toList) (lmap eI (dJ a.toList b.toList))
 |.makeSlice t l c=>(match T.bI t with
   |some (.slice e)=>ms (lg 0 (aq (T.info e) λi=>some i.bytes)) (Ag T e) (eI l) (eI c)
   |_=>.bad)
 |.slice t x lo hi m=>(match T.bI t with
   |some .string=>cw lo.isSome hi.isSome m.isSome (lmap eI (x::dJ (lp lo) (dJ (lp hi) (lp m))))
   |some (.slice e)=>cT (qy T e) lo.isSome hi.isSome m.isSome (lmap eI (x::dJ (lp lo) (dJ (lp hi) (lp m))))
   |some (.array n e)=>cS n (qy T e) lo.isSome hi.isSome m.isSome (lmap eI (x::dJ (lp lo) (dJ (lp hi) (lp m))))
   |_=>.bad)
 |.field s x f=>(match T.bI s with
   |some (.struct h)=>lg .bad (aq (dw h.toList f) λf=>some (fd (lg false (T.isAgg f.type)) (qy T f.type) f.offset (eI x)))
   |_=>.bad)
 |.fieldAddr s x f=>(match T.bI s with
   |some (.struct h)=>fa (lg 0 (aq (dw h.toList f) λf=>some f.offset)) (eI x)
   |_=>.bad)
 |.indexAddr t x i=>(match T.bI t with
   |some (.slice e)=>bz none (qy T e) (eI x) (eI i)
   |some (.array n e)=>bz (some n) (qy T e) (eI x) (eI i)
   |_=>.bad)
 |.index _ x i=>bY (eI x) (eI i)
 |.extract t i=>ext i (eI t)
 |.makeMap _ _=>cM
 |.lookup t x i u=>(match T.bI t with
   |some (.map q e)=>cI (lg [] (yO T q)) (lg .undef (aq (T.info e) λi=>aq i.zero λz=>ow 20 z)) u (eI x) (eI i)
   |_=>.bad)
 |.mapUpdate t m k v=>(match T.bI t with
   |some (.map q _)=>cN (lg [] (yO T q)) (eI m) (eI k) (eI v)
   |_=>.bad)
 |.range _ x=>cR (eI x)
 |.next x _=>cP (eI x)
 |.entry x=>cG (eI x)
 |.call c=>(match c.callee with
  |.value (.func f)=>(match N f with
   |some g=>cQ g (lmap eI c.args.toList)
   |_=>bU f (lmap eI c.args.toList))
  |.value x=>cE (lmap eI (x::c.args.toList))
  |.builtin b=>(match b,lmap (λt=>T.bI t) c.argTypes.toList,lmap eI c.args.toList with
   |.len,some .string::_,[x]=>cK x
   |.len,some (.map _ _)::_,[x]=>cJ x
   |.len,_,[x]=>cr x
   |.cap,_,[x]=>cB x
   |.max,_,r=>mx r
   |.min,_,r=>mn r
   |.append,some (.slice e)::some (.int _)::_,[x,y]=>cA (lg 0 (aq (T.info e) λi=>some i.bytes)) (Ag T e) x y
   |.append,some (.slice e)::_,[x,y]=>ap (lg 0 (aq (T.info e) λi=>some i.size)) (lg 0 (aq (T.info e) λi=>some i.bytes)) x y
   |.copy,some (.slice e)::_,[x,y]=>cF (qy T e) x y
   |_,_,_=>.bad)
  |_=>.bad)
 |_=>.bad
def RQ(N:Nat->Option (au->Option bh))(T:c6)(o:Op):Nat:=match o with
 |.assign _=>2|.store _ _ _=>2|.makeMap _ _=>2|.mapUpdate _ _ _ _=>2|.range _ _=>2|.next _ _=>2
 |.load _ _=>1|.lookup _ _ _ _=>1|.entry _=>1
 |.convert s _ _=>(match T.bI s with|some (.slice _)=>1|_=>0)
 |.call c=>(match c.callee with
  |.value (.func f)=>(match N f with|some _=>0|_=>2)
  |.value _=>2
  |.builtin b=>(match b,lmap (λt=>T.bI t) c.argTypes.toList with
   |.len,some (.map _ _)::_=>1
   |.append,_::some (.int _)::_=>0
   |.append,_=>2
   |.copy,_=>2
   |_,_=>0)
  |_=>2)
 |_=>0
def amf(N:Nat->Option (au->Option bh))(T:c6)(b:List Oper):av->Nat->List Info:=
 List.rec (motive:=λ_=>av->Nat->List Info) (λ_ _=>[])
  (λo _ a ms i=>⟨i,o,tO 0 ms 0,⟨λ_=>none,none,.bad⟩,bt (RQ N T o.op) 2⟩::a (eH ms 1) (Nat.succ i)) b
def auZ(N:Nat->Option (au->Option bh))(T:c6)(l a:List Info)(r:List Info):Nat->List (Bool×Info):=
 List.rec (motive:=λ_=>Nat->List (Bool×Info)) (λj=>lmap (λi=>(false,i)) (nX l a j))
  (λe _ b j=>dJ (lmap (λi=>(false,i)) (nX l a j)) ((false,e)::dJ
    (lmap (λi=>(true,i)) (l9 (λi=>and (!i.hM) (and (bt (RQ N T i.o.op) 1) (and (b6 (oQ a i.mask) j) (!(jK e.mask i.ix))))) l)) (b (Nat.succ j)))) r
def Rq(N:Nat->Option (au->Option bh))(T:c6)(a:List Oper)(r:Bool)(o:Oper):dW:=match r,o.guard,o.dst with
 |false,none,some d=>ex d (Bz N T o.op)
 |false,none,none=>bD (Bz N T o.op)
 |false,some (j,b),some d=>bB (lg 0 (v8 a j)) b d (Bz N T o.op)
 |true,none,some d=>re d (Bz N T o.op)
 |true,some (j,b),some d=>rg (lg 0 (v8 a j)) b d (Bz N T o.op)
 |_,_,_=>bD .bad
def asb(N:Nat->Option (au->Option bh))(T:c6)(a:List Oper)(c:Bool):List dW:=
 Bool.casesOn (motive:=λ_=>List dW) c (lmap (Rq N T a false) a)
  (let l:=amf N T a (masks a []) 0
   let b:=l9 (λi=>i.hM) l
   lmap (λp=>Rq N T a p.1 p.2.o) (auZ N T l b b 0))
def Tv(c:Code):Option (Code×Code):=
 Code.rec (motive:=λ_=>Option (Code×Code)) none (λ_ _ _=>none) (λ_ _ a b=>Option.casesOn (motive:=λ_=>Option (Code×Code)) a b some) (λ_ _ _ a b=>Option.casesOn (motive:=λ_=>Option (Code×Code)) a b some) (λ_ _ a=>a) (λ_ a=>a)
  (λ_ _ a b _ _=>some (a,b)) (λ_=>none) (λ_ a=>a) (λ_=>none) (λ_=>none) none (λ_=>none) c
def aq9(c:aS):Bool:=match c with|.skip=>false|.ret=>false|_=>true
def Tm(a:Option (Nat->aS))(l:List aS)(b:aS):aS:=match a with|none=>b|some g=>g (c_ l)
def Xd(N:Nat->Option (au->Option bh))(T:c6)(d:Option (Nat->aS))(g:Option (Code×Code))(c:Code):Bool->List aS->aS×List aS:=
 Code.rec (motive:=λ_=>Bool->List aS->aS×List aS) (λ_ l=>(.skip,l)) (λ_ h e _ l=>(.c7 (asb N T h.toList e),l))
  (λ_ _ a b s l=>let x:=a false l;let y:=b s x.2;Bool.casesOn (motive:=λ_=>aS×List aS) (and s (aq9 y.1)) (.seq x.1 y.1,y.2) (.seq x.1 (Tm d y.2 y.1),dJ y.2 [y.1]))
  (λx _ _ a b _ l=>let y:=a false l;let z:=b false y.2;(.cond (eI x) y.1 z.1,z.2)) (λid _ b s l=>let x:=b s l;(.block id x.1,x.2))
  (λ_ b _ l=>let x:=b true l;(.loop (Tm d x.2 x.1),dJ x.2 [x.1])) (λx i a b bz f _ l=>let y:=bz false l;let z:=f false y.2;let r:=Option.casesOn (motive:=λ_=>Code×Code) g (a,b) (λr=>r);(.om (eI x) i.toList r.1 r.2,dJ z.2 [y.1,z.1])) (λid _ l=>(.exit id,l)) (λ_ b s l=>b s l) (λ_ _ l=>(.skip,l)) (λ_ _ l=>(.skip,l)) (λ_ l=>(.ret,l)) (λ_ _ l=>(.skip,l)) c
end Go.ax
namespace Go.Proofs.YtddhncjmaahodaaGreatDoor
open Go.ax
def nN:fh:=QM e9
def J9(t:TypeId):Option (List TypeDesc):=bif bt t 45 then some [.string,.string]else bif bt t 300 then some [.string,.string,.int .i64]else none
def aul(t:TypeId)(ds:List TypeDesc)(h:J9 t=some ds):FO e9 t ds:=by
 by_cases a:t=45
 .subst a;cases h;exact⟨by kernel_rfl,by kernel_rfl,by kernel_rfl,by kernel_rfl⟩
 by_cases b:t=300
 .subst b;cases h;exact⟨by kernel_rfl,by kernel_rfl,by kernel_rfl,by kernel_rfl⟩
 unfold J9 at h;rw[show bt t 45=false from mo.2 λe=>a (Nat.eq_of_beq_eq_true e),show bt t 300=false from mo.2 λe=>b (Nat.eq_of_beq_eq_true e)]at h;cases h
def qU:c6:=Uv e9 J9
def fI:e9.follows .mixedOrders=true:=by kernel_rfl
def hT:dH e9 qU:=avX _ aul
def b_:kH e9 nN:=aks _
def ff{p:Prop}(h:p:=by simp only[go_sem];omega):p:=h
def eJ{p:Prop}(h:p:=by simp only[go_sem]):p:=h
def jE{p:Prop}(h:p:=by rw[ah.aT,ay rfl]):p:=h
variable{f:Type}
def ep{a b:f}(h:a=b:=by kernel_rfl):a=b:=h
def Al(fn:Func)(f:Nat)(c:aS)(l:List iC):Prop:=nN.get aN f=some fn/\tw 5 nN qU fn=some (c,l)
variable{d:Nat}{J:aS}
def RP{fn:Func}{l:List iC}(a:nN.get aN d=some fn:=by kernel_rfl)(b:tw 5 nN qU fn=some (J,l):=by kernel_rfl):Al fn d J l:=⟨a,b⟩
abbrev aj(z:Int):V:=.int .i64 z
abbrev aC(z:Int):V:=.int .u64 z
abbrev aR:V:=.bool false
abbrev cY:V:=.bool true
abbrev an(l:List V)(k:Nat):dU:=.cells l k
abbrev dm(f:FuncId)(args:List V)(H:ah)(Q:V->ah->Prop):Prop:=dD e9 5 (.fn f) args H Q
abbrev bK(c:aS)(R:X->Fr->ah->Prop)(F:Fr)(H:ah):Prop:=jJ e9 5 c R F H
variable{a:Nat}{b:ah}{G:V->ah->Prop}
def bg{fn:Func}{l:List iC}{args:List V}(k:Al fn a J l)(h:jJ e9 5 J (gC l G) (mV args 0 .nil) b)(e:b6 (c_ args) fn.ntmps=true:=by rfl):dD e9 5 (.fn a) args b G:=pD hT b_ fI k.1 k.2 e h
def bm(f:Nat)(args:au)(r:V):Prop:=∀H,dm f args H λv a=>v=r/\a=H
variable{l:V}
def dM{args:au}(b:ct args)(c:bA l)(h:dm a args (ah.zero 5) λv _=>v=l):bm a args l:=rB (R:=λv=>v=l) b (dD.mono (Q:=λv _=>v=l) (λv _ e=>⟨v,.same v,by rw[e];exact c,e⟩) h)
end Go.Proofs.YtddhncjmaahodaaGreatDoor
namespace Go.aD
def val:av->Nat
 |[]=>0
 |d::l=>d+4294967296*val l
def aG(l:av):Prop:=∀d∈l,d<4294967296
def aY(l:av):Prop:=l.getLast?≠some 0
variable{a:Nat}{g:av}
def aG.cons(h:aG (a::g)):a<4294967296/\aG g:=⟨h a aI,λx b=>h x (by simp[b])⟩
def aG.mk(h:a<4294967296)(b:aG g):aG (a::g):=λx hx=>by
 rcases jr.1 hx with rfl|hx
 .exact h
 .exact b x hx
theorem aG.nil:aG []:=λ_ h=>by cases h
def aG.take(h:aG g)(n:Nat):aG (g.take n):=λx a=>h x (oD a)
def aG.drop(h:aG g)(n:Nat):aG (g.drop n):=λx a=>h x (List.mem_of_mem_drop a)
def aG.app{m:av}(h:aG g)(a:aG m):aG (g++m):=λx hx=>by
 rcases ki.1 hx with hx|hx
 .exact h x hx
 .exact a x hx
def aG.getD(h:aG g)(i:Nat):g.getD i 0<4294967296:=by
 rw[bT];cases e:g[i]? with
 |none=>simp
 |some x=>exact h x (fL e)
theorem iz:∀ {l:av},aG l->val l<4294967296^(af l)
 |[],_=>by simp[val]
 |d::l,h=>by have a:=iz h.cons.2;have b:=h.cons.1;simp only[val,dZ,dX];omega
theorem gi:∀(l m:av),val (l++m)=val l+4294967296^(af l)*val m
 |[],m=>by simp[val]
 |d::l,m=>by simp only[gv,val,dZ,dX,gi l m,dL];rw[dy (4294967296^(af l)) 4294967296,dx,ng]
def Kc(h:a<af g):g=g.take a++g.getD a 0::g.drop (a+1):=by simp_all
def sV{l:av}{i:Nat}(h:i<af l):val l=val (l.take i)+4294967296^i*(l.getD i 0+4294967296*val (l.drop (i+1))):=by have e:=congrArg val (Kc h);rw[gi,jq (ja h)]at e;exact e
variable{d:Nat}
def Bh{a:av}(c:aG a)(hi:d<af a)(hi':d<af g)(h:a.drop (d+1)=g.drop (d+1))(f:a.getD d 0<g.getD d 0):val a<val g:=by
 rw[sV hi,sV hi',h];have b:=iz (c.take d);rw[jq (ja hi)]at b;have e:4294967296^d*(a.getD d 0+4294967296*val (g.drop (d+1)))+4294967296^d<=4294967296^d*(g.getD d 0+4294967296*val (g.drop (d+1))):=by rw[<-Nat.mul_succ];exact eN _ aa
 omega
def aY.pos(h:aY g)(a:g≠[]):4294967296^(af g-1)<=val g:=by
 have hl:0<af g:=List.length_pos_iff.2 a;have hi:af g-1<af g:=aa;rw[sV hi];have:g.getD (af g-1) 0≠0:=by intro e;refine h ?_;rw[List.getLast?_eq_getElem?,c4 hi];rw[bT,c4 hi]at e;exact congrArg some e
 have b:4294967296^(af g-1)*1<=4294967296^(af g-1)*(g.getD (af g-1) 0+4294967296*val (g.drop (af g-1+1))):=eN _ aa;omega
theorem ve{a:av}(b:aG a)(c:aY g)(h:af a<af g):val a<val g:=by have d:=iz b;have e:=c.pos b4;have f:4294967296^(af a)<=4294967296^(af g-1):=iI aa aa;omega
theorem val_inj:∀ {a b:av},aG a->aG b->af a=af b->val a=val b->a=b
 |[],[],_,_,_,_=>rfl
 |x::a,y::b,c,d,hl,h=>by have g:=c.cons.1;have i:=d.cons.1;simp only[val]at h;have e:x=y:=aa;have f:val a=val b:=aa;rw[e,val_inj c.cons.2 d.cons.2 (by simpa using hl) f]
theorem canon{a:av}(b:aG a)(c:aG g)(d:aY a)(e:aY g)(h:val a=val g):a=g:=by
 rcases Nat.lt_trichotomy (af a) (af g)with h1|h1|h1
 .have:=ve b e h1;omega
 .grind [val_inj]
 .have:=ve c d h1;omega
def trim:av->av
 |[]=>[]
 |d::l=>if trim l=[]/\d=0 then []else d::trim l
def z6(l:av):trim (l++[0])=trim l:=by
 induction l with
 |nil=>rfl
 |cons d l a=>simp only[gv,trim,a]
theorem z4(l:av)(d:Nat)(h:d≠0):trim (l++[d])=l++[d]:=by
 induction l with
 |nil=>simp[trim,h]
 |cons e l a=>simp only[gv,trim,a];simp
theorem Ac:∀l,val (trim l)=val l
 |[]=>rfl
 |d::l=>by
  have a:=Ac l;unfold trim;split
  .rename_i h;rw[h.1]at a;simp only[val]at a⊢;omega
  .simp only[val,a]
theorem z5:∀ {l:av},aG l->aG (trim l)
 |[],h=>h
 |d::l,h=>by
  unfold trim;split
  .exact aG.nil
  .exact .mk h.cons.1 (z5 h.cons.2)
theorem Ch:∀l,aY (trim l)
 |[]=>by simp[trim,aY]
 |d::l=>by
  have a:=Ch l;unfold trim;split
  .simp[aY]
  .rename_i h;unfold aY at*;cases e:trim l with
   |nil=>rw[e]at h;simp at h;simpa using h
   |cons x m=>rw[e]at a;simpa using a
def Uo:∀l,af (trim l)<=af l
 |[]=>aJ _
 |d::l=>by
  have:=Uo l;unfold trim;split
  .simp
  .simp;exact this
def aU(n:Nat):av:=if h:n=0 then []else n%4294967296::aU (n/4294967296)
termination_by n
decreasing_by omega
theorem kz:aU 0=[]:=by unfold aU;simp
theorem qf(h:a≠0):aU a=a%4294967296::aU (a/4294967296):=by rw[aU];simp[h]
def gU(n:Nat):val (aU n)=n:=by
 induction n using j3 with
 |ind n a=>
  by_cases h:n=0
  .subst h;rw[kz];rfl
  .rw[qf h];simp only[val,a (n/4294967296) aa];omega
theorem iX(n:Nat):aG (aU n):=by
 induction n using j3 with
 |ind n a=>
  by_cases h:n=0
  .grind [kz,aG.nil]
  .rw[qf h];exact .mk aa (a _ aa)
theorem rJ(n:Nat):aY (aU n):=by
 induction n using j3 with
 |ind n a=>
  by_cases h:n=0
  .subst h;rw[kz];simp[aY]
  .rw[qf h];have:=a (n/4294967296) aa;unfold aY at*
   grind [qf]
theorem Ds(h:aG g)(t:aY g):aU (val g)=g:=canon (iX _) h (rJ _) t (gU _)
theorem sR(h:aG g):trim g=aU (val g):=by grind [Ac,Ds,z5,Ch]
variable{m:Nat}
theorem AT(h:d<4294967296^m):af (aU d)<=m:=by
 by_cases e:aU d=[]
 .grind
 .have b:=(rJ d).pos e;rw[gU]at b;have c:af (aU d)-1<m:=(Nat.pow_lt_pow_iff_right (a:=4294967296) aa).1 aa;omega
section
variable {q top u2 nJ v1 v2 pe W U V:Nat}
def A_(c:V=(v1*4294967296+v2)*W+pe)(b:U=(top*4294967296+u2)*W+nJ)(g:nJ<W)(f:q*V<=U):q*(v1*4294967296+v2)<=top*4294967296+u2:=by
 obtain⟨X,d⟩:∃X,X=v1*4294967296+v2:=⟨_,rfl⟩;obtain⟨T,hT⟩:∃T,T=top*4294967296+u2:=⟨_,rfl⟩;rw[<-d]at c⊢;rw[<-hT]at b⊢;have e:q*X*W<=q*V:=by rw[dx];exact eN _ aa
 have a:q*X*W<(T+1)*W:=by rw[fT,kn];omega
 have:=vP a;omega
def D9(b:V=(v1*4294967296+v2)*W+pe)(a:U=(top*4294967296+u2)*W+nJ)(d:nJ<W)(f:u2<4294967296)(e:0<v1)(c:q*V<=U):q<=top/v1:=by have h:=A_ b a d c;rw[dL,<-dx]at h;rw[vO e];omega
theorem D_{h r:Nat}(b:V=(v1*4294967296+v2)*W+pe)(a:U=(top*4294967296+u2)*W+nJ)(d:nJ<W)(c:q*V<=U)(i:top=h*v1+r)(g:r*4294967296+u2<h*v2):q<h:=by
 rcases rY q h with h1|h1
 .exact h1
 .have e:=A_ b a d c;have f:h*(v1*4294967296+v2)<=q*(v1*4294967296+v2):=ei _ h1
  grind
def Ea(e:V=(v1*4294967296+v2)*W+pe)(c:U=(top*4294967296+u2)*W+nJ)(l:pe<W)(p:0<v1)(k:top=a*v1+d)(hh:a<4294967296)(o:a*v2<=d*4294967296+u2):(a-1)*V<=U:=by
 cases a with
 |zero=>simp
 |succ g=>
  have m:top*4294967296=(g+1)*v1*4294967296+d*4294967296:=by rw[k,fT]
  have b:(g+1)*(v1*4294967296+v2)<=top*4294967296+u2:=by rw[dL,<-dx];omega
  have j:4294967296<=v1*4294967296+v2:=aa;obtain⟨X,h⟩:∃X,X=v1*4294967296+v2:=⟨_,rfl⟩;obtain⟨T,f⟩:∃T,T=top*4294967296+u2:=⟨_,rfl⟩;rw[<-h]at e b j;rw[<-f]at c b;have i:(g+1)*X*W<=T*W:=ei _ b;rw[fT g 1 X,kn,fT]at i;have n:g*pe<=X*W:=iP aa (ja l);show g*V<=U;rw[e,c,dL,<-dx];omega
end
def ud:∀ {l:av}{k:Nat},(∀p,k<=p->l.getD p 0=0)->val l=val (l.take k)
 |[],_,_=>aI
 |d::l,0,h=>by have b:=h 0 (aJ _);have a:=ud (l:=l) (k:=0) (λp _=>by simpa using h (p+1) (cj _));simp at b a;simp[val,b,a]
 |d::l,k+1,h=>by have a:=ud (l:=l) (k:=k) (λp c=>by simpa using h (p+1) aa);simp only[List.take_succ_cons,val,a]
def CL:∀ {l:av}{k:Nat},val l<4294967296^k->∀p,k<=p->l.getD p 0=0
 |[],_,_,p,_=>aI
 |d::l,0,h,p,_=>by
  simp[val]at h;have hl:val l=0:=aa;cases p with
  |zero=>simp;omega
  |succ p=>simpa using CL (l:=l) (k:=0) (by simpa using hl) p (cj _)
 |d::l,k+1,h,0,a=>absurd a aa
 |d::l,k+1,h,p+1,a=>by
  have:val l<4294967296^k:=by simp only[val,dX]at h;omega
  simpa using CL this p aa
theorem rL(l:av)(j:Nat)(h:j<=af l):val l=val (l.take j)+4294967296^j*val (l.drop j):=by
 have:=congrArg val (p6 j l)
 grind [gi,jq]
theorem wh(l:av)(j p:Nat):(l.drop j).getD p 0=l.getD (j+p) 0:=by grind
def wY{l:av}{i:Nat}(h:i<af l):val (l.drop i)=l.getD i 0+4294967296*val (l.drop (i+1)):=by rw[mQ h,bT,c4 h];rfl
def x1{l:av}{n:Nat}(d:2<=n)(e:n<=af l)(f:∀p,n<=p->l.getD p 0=0):val l=(l.getD (n-1) 0*4294967296+l.getD (n-2) 0)*4294967296^(n-2)+val (l.take (n-2)):=by
 have c:val (l.drop n)=0:=by have:=ud (l:=l.drop n) (k:=0) (λp _=>by simp_all);simpa [val]using this
 have a:=sV (l:=l) (i:=n-2) aa;have b:=wY (l:=l) (i:=n-1) aa;rw[(aa:n-1+1=n)]at b;rw[(aa:n-2+1=n-1)]at a;rw[a,b,c,gj,dG,dy _ (4294967296^(n-2)),i_ (val _),i_ (l.getD (n-2) 0),dy 4294967296]
section
variable {T U V h k cu P Q KK U0 Fz awR q:Nat}
def avB(d:T=Fz+Q*U)(e:KK+Q*(h*V)=T+P*k)(f:KK<P*(cu+1))(b:cu<k):U<h*V:=by have c:P*(cu+1)<=P*k:=eN _ b;have a:Q*U<Q*(h*V):=aa;exact Nat.lt_of_mul_lt_mul_left a
def arC(b:T=Fz+Q*U)(d:Fz<Q)(c:U0+Q*(h*V)=T):h*V<=U:=by
 have a:Q*(h*V)<Q*(U+1):=by rw[dL,eD];omega
 have:=Nat.lt_of_mul_lt_mul_left a;omega
end
theorem Ts{b:av}{V:Nat}(f:a<=g.length)(i:a<=b.length)(j:b.take a=g.take a)(p:val b+4294967296^a*(d*V)=val g)(o:d=val (g.drop a)/V)(e:0<V):val (b.drop a)<V:=by
 have k:=rL g a f;have c:=rL b a i;rw[j]at c;have h:4294967296^a*(val (b.drop a)+d*V)=4294967296^a*val (g.drop a):=by rw[dL];omega
 have l:=Nat.eq_of_mul_eq_mul_left (gE aa) h;have m:=kj (val (g.drop a)) V;have n:=fD (val (g.drop a)) e
 grind
theorem Lb(V Q h w:Nat):V*(Q*(h+4294967296*w))=Q*(h*V)+V*(Q*4294967296*w):=by grind
def shr(s:Nat):av->av
 |[]=>[]
 |[d]=>[d/2^s]
 |d::e::l=>(d/2^s+(e%2^s)*2^(32-s))::shr s (e::l)
def vo(s:Nat):∀l,af (shr s l)=af l
 |[]=>rfl
 |[_]=>rfl
 |d::e::l=>by simp[shr,vo s (e::l)]
def two32(b:a<=31):(4294967296:Nat)=2^a*2^(32-a):=by rw[<-iB,(aa:a+(32-a)=32)]
def zV(b:a<=31):∀l,val (shr a l)=val l/2^a
 |[]=>by simp[shr,val]
 |[d]=>by simp[shr,val]
 |d::e::l=>by
  have i:=zV b (e::l);have h:0<2^a:=gE aa;have f:val (e::l)%2^a=e%2^a:=by show(e+4294967296*val l)%2^a=e%2^a;rw[two32 b,dx,Nat.add_mul_mod_self_left]
  have g:val (d::e::l)/2^a=d/2^a+2^(32-a)*val (e::l):=by show(d+4294967296*val (e::l))/2^a=_;rw[two32 b,dx,Nat.add_mul_div_left _ _ h]
  have c:=kj (val (e::l)) (2^a);rw[f]at c;rw[g];show d/2^a+(e%2^a)*2^(32-a)+4294967296*val (shr a (e::l))=_;rw[i,two32 b,xk (2^a),dy (2^a*(val (e::l)/2^a)),dy (e%2^a),ng,<-dL,i_ (e%2^a),c]
def yg(b:a<=31):∀ {l},aG l->aG (shr a l)
 |[],h=>h
 |[d],h=>by have:=h.cons.1;exact .mk (fu (js _ _) this) aG.nil
 |d::e::l,h=>by
  refine .mk ?_ (yg b h.cons.2);have c:0<2^a:=gE aa;have g:=h.cons.1;have i:d/2^a<2^(32-a):=by rw[s8 c,dy,<-two32 b];exact g
  have f:(e%2^a+1)*2^(32-a)<=2^a*2^(32-a):=ei _ (fD _ c);rw[<-two32 b,fT,kn]at f;omega
def zU{s:Nat}:∀ {l:av}{i:Nat},i<af l->(shr s l).getD i 0=l.getD i 0/2^s+(l.getD (i+1) 0%2^s)*2^(32-s)
 |[],_,h=>absurd h (nP _)
 |[d],0,_=>by simp[shr]
 |[_],_+1,h=>by simp at h
 |d::e::l,0,_=>by simp[shr]
 |d::e::l,i+1,h=>by have a:=zU (s:=s) (l:=e::l) (i:=i) (by simpa using h);simpa [shr]using a
def aiT(h:4294967296^m<=d):m<af (aU d):=by have:=iz (iX d);rw[gU]at this;exact(Nat.pow_lt_pow_iff_right (a:=4294967296) aa).1 (fu h this)
def ox(b:af g=a+1):val g=val (g.take a)+4294967296^a*g.getD a 0:=by have h:=sV (l:=g) (i:=a) aa;rw[mR aa]at h;simpa [val]using h
variable{D:Nat}
theorem Bv(p:af (aU d)=D+1)(r:m<=31)(j:2147483648<=(aU d).getD D 0*2^m)(f:(aU d).getD D 0*2^m<4294967296):
 (aU (d*2^m)).length=D+1/\2147483648<=(aU (d*2^m)).getD D 0:=by
 have e:=ox p;rw[gU]at e;have k:=iz ((iX d).take D);rw[jq aa]at k;obtain⟨t,s⟩:∃t,t=(aU d).getD D 0:=⟨_,rfl⟩;obtain⟨lo,n⟩:∃lo,lo=val ((aU d).take D):=⟨_,rfl⟩;rw[<-s]at j f e;rw[<-n]at k e;have q:0<2^m:=gE aa;have x:0<4294967296^D:=gE aa;have l:(t+1)*2^m<=4294967296:=by rw[two32 r]at f⊢;rw[dy (2^m)]at f⊢;exact ei _ (vP f)
 have v:d*2^m<4294967296^(D+1):=by
  have a:d<4294967296^D*(t+1):=by rw[dL,eD];omega
  have b:d*2^m<4294967296^D*(t+1)*2^m:=qQ a q;rw[dx]at b;have c:=eN (4294967296^D) l;rw[dX];omega
 have w:4294967296^D*(t*2^m)<=d*2^m:=by rw[<-dx];exact ei _ aa
 have A:4294967296^D*2147483648<=d*2^m:=c5 (eN _ j) w;have y:=AT v;have z:D<af (aU (d*2^m)):=aiT aa;have hl:af (aU (d*2^m))=D+1:=aa;refine⟨hl,?_⟩;have i:=ox hl;rw[gU]at i;have o:=iz ((iX (d*2^m)).take D);rw[jq aa]at o;obtain⟨g,u⟩:∃g,g=(aU (d*2^m)).getD D 0:=⟨_,rfl⟩;rw[<-u]at i⊢;refine k4 λh=>?_
 have:4294967296^D*(g+1)<=4294967296^D*2147483648:=eN _ h
 grind
variable{O:Nat}
theorem akj(n:val g=a*2^m)(hl:g.length=D+O+2)(j:af (aU a)=D+O+1)(k:af (aU d)=O+1):val (g.drop (D+1))<d*2^m:=by
 have i:0<2^m:=gE aa;have e:=rL g (D+1) aa;have b:=iz (iX a);rw[gU,j]at b;have c:=(rJ d).pos b4;rw[gU,k,vN]at c;have l:a*2^m<4294967296^(D+1)*(4294967296^O*2^m):=by rw[<-dx,<-iB,(aa:D+1+O=D+O+1)];exact qQ b i
 have f:4294967296^(D+1)*val (g.drop (D+1))<4294967296^(D+1)*(4294967296^O*2^m):=aa;have h:=Nat.lt_of_mul_lt_mul_left f;exact fy h (ei _ c)
theorem asR(e:0<d)(h:D+d*2^m*O=a*2^m)(hl:D<d*2^m):O=a/d/\D/2^m=a%d:=by
 have c:0<2^m:=gE aa;have b:a*2^m/(d*2^m)=O:=by rw[<-h,i_,dy (d*2^m),i_,Nat.add_mul_div_right _ _ aa,mw hl,eW]
 grind [Nat.add_mul_mod_self_left,jR,Nat.mul_div_mul_right,uD,Nat.mul_div_cancel]
def dd(q:Rat):Nat:=if q.den=1 then 0 else q.den
def zD(n:Int)(b:a≠0):(mkRat n a).num=n.tdiv (c9 n.natAbs a:Nat):=by rw[<-Rat.normalize_eq_mkRat b,Rat.normalize_eq];exact(Int.tdiv_eq_ediv_of_dvd (Int.ofNat_dvd_left.2 (Nat.gcd_dvd_left _ _))).symm
def El(n:Int)(b:a≠0):(mkRat n a).den=a/c9 n.natAbs a:=by rw[<-Rat.normalize_eq_mkRat b,Rat.normalize_eq]
def mk_one{n:Int}(c:a≠0)(b:c9 n.natAbs a=1):(mkRat n a).num=n/\(mkRat n a).den=a:=by simp_all [zD,El,Int.tdiv_one,pA]
def yN(p q:Rat):p+q=mkRat (p.num*q.den+q.num*p.den) (p.den*q.den):=by rw[Rat.add_def,Rat.normalize_eq_mkRat]
def Bq(p q:Rat):p*q=mkRat (p.num*q.num) (p.den*q.den):=by rw[Rat.mul_def,Rat.normalize_eq_mkRat]
variable{h:Rat}
def add_one{q:Rat}(a:h.den=1)(b:q.den=1):(h+q).num=h.num+q.num/\(h+q).den=1:=by simp_all [yN,mk_one]
theorem mul_one{q:Rat}(a:h.den=1)(b:q.den=1):(h*q).num=h.num*q.num/\(h*q).den=1:=by simp_all [Bq,mk_one]
structure aM (k:Nat) (q:Rat):Prop where
 num:q.num.natAbs<2^k
 den:q.den<2^k
def mk_le(n:Int){m:Nat}(a:m≠0):(mkRat n m).num.natAbs<=n.natAbs/\(mkRat n m).den<=m:=by rw[zD _ a,El _ a,Int.natAbs_tdiv];exact⟨js _ _,js _ _⟩
def wE{a:Nat}(b:m<2^a)(c:D<2^d):m*D<2^(a+d):=by
 rw[iB];rcases uB D with h|h
 .simp_all;omega
 .exact fy (qQ b h) (eN _ (ja c))
def Jx{n a m b c k:Nat}(h:n<a^m)(d:a<=b^c)(f:c*m<=k)(e:0<b):n<b^k:=fy h (c5 (Nat.pow_le_pow_left d m) (by rw[<-Nat.pow_mul];exact iI e f))
def asq{n a m b c k:Nat}(h:n<b^k)(e:k<=c*m)(f:b^c<=a)(d:0<b):n<a^m:=fy h (c5 (iI d e) (by simp_all [Nat.pow_mul,Nat.pow_le_pow_left]))
def aM.mono{a:Nat}(b:aM a h)(c:a<=d):aM d h:=⟨fy b.num (iI ai c),fy b.den (iI ai c)⟩
def aM.add{a:Nat}{q:Rat}(b:aM a h)(c:aM d q):aM (a+d+1) (h+q):=by
 have g:h.den*q.den≠0:=xj h.den_nz q.den_nz;rw[yN];obtain⟨i,j⟩:=mk_le (h.num*q.den+q.num*h.den) g;have k:=wE b.num c.den;have f:=wE c.num b.den;have l:=wE b.den c.den;have m:(h.num*(q.den:Int)+q.num*(h.den:Int)).natAbs<=h.num.natAbs*q.den+q.num.natAbs*h.den:=by refine c5 (Int.natAbs_add_le _ _) ?_;rw[nM,nM];exact aJ _
 have e:2^(d+a)=2^(a+d):=by rw[i_]
 rw[e]at f;refine⟨?_,?_⟩
 .omega
 omega
def aM.mul{a:Nat}{q:Rat}(c:aM a h)(e:aM d q):aM (a+d) (h*q):=by have j:h.den*q.den≠0:=xj h.den_nz q.den_nz;rw[Bq];obtain⟨b,f⟩:=mk_le (h.num*q.num) j;have g:=wE c.num e.num;have i:=wE c.den e.den;rw[nM]at b;exact⟨fu b g,fu f i⟩
theorem aM.neg{a:Nat}(b:aM a h):aM a (-h):=by
 refine⟨?_,?_⟩
 .rw[Rat.neg_num,pY];exact b.num
 .rw[Rat.neg_den];exact b.den
def aM.sub{a:Nat}{q:Rat}(b:aM a h)(c:aM d q):aM (a+d+1) (h-q):=by rw[Rat.sub_eq_add_neg];exact b.add c.neg
variable{q:Int}
def aM.ofInt(h:q.natAbs<2^a)(b:0<a):aM a (q:Rat):=⟨h,by simp_all;omega⟩
def ds(n:Nat):aW:=if h:n=0 then []else ds (n/10)++[iD (48+n%10)]
termination_by n
decreasing_by omega
theorem pF:ds 0=[]:=by rw[ds];simp
theorem sj(h:a≠0):ds a=ds (a/10)++[iD (48+a%10)]:=by rw[ds];simp[h]
def Dv(v c:Nat)(a:c<10)(h:v≠0\/c≠0):ds (10*v+c)=ds v++[iD (48+c)]:=by rw[sj aa,(aa:(10*v+c)/10=v),(aa:(10*v+c)%10=c)]
def dec(n:Nat):aW:=if n=0 then [48]else ds n
def dv(l:aW):Nat:=l.foldl (λa c=>10*a+(c.toNat-48)) 0
theorem AV(l:aW)(c:UInt8):dv (l++[c])=10*dv l+(c.toNat-48):=by simp[dv]
theorem ajh(n:Nat):dv (ds n)=n:=by
 induction n using j3 with
 |ind n a=>
  by_cases h:n=0
  .subst h;rw[pF];rfl
  grind [sj,AV,UInt8.toNat_ofNat']
theorem sk(n:Nat):dv (dec n)=n:=by
 unfold dec;split
 .rename_i h;rw[h];rfl
 .exact ajh n
def gx(c:UInt8):Prop:=48<=c.toNat/\c.toNat<=57
instance(c:UInt8):Decidable (gx c):=inferInstanceAs (Decidable (_/\_))
theorem ajd(n:Nat):∀c∈ds n,gx c:=by
 induction n using j3 with
 |ind n a=>
  by_cases h:n=0
  .grind [pF]
  .rw[sj h];intro c hc;rcases ki.1 hc with hc|hc
   .grind
   .rw[fj.1 hc];have:(iD (48+n%10)).toNat=48+n%10:=by rw[UInt8.toNat_ofNat'];omega
    unfold gx;rw[this];omega
def vY(n:Nat):∀c∈dec n,gx c:=by
 unfold dec;split
 .intro c a;rw[fj.1 a];decide
 .exact ajd n
theorem Du(h:a≠0):ds a≠[]:=by rw[sj h];simp
theorem uO(n:Nat):dec n≠[]:=by
 unfold dec
 grind [Du]
theorem ajc(n:Nat):∀c l,ds n=c::l->c≠48:=by
 induction n using j3 with
 |ind n f=>
  by_cases h:n=0
  .grind [pF]
  .rw[sj h];intro c l a;by_cases d:n/10=0
   .rw[d,pF]at a;have e:=(List.cons.inj a).1;rw[<-e];intro b;have:=congrArg UInt8.toNat b
    grind [UInt8.toNat_ofNat']
   .cases e:ds (n/10)with
    |nil=>grind [Du]
    |cons x m=>grind
theorem qZ{n k:Nat}(h:n<10^k):af (ds n)<=k:=by
 induction k generalizing n with
 |zero=>simp_all [pF,aJ]
 |succ k a=>
  by_cases e:n=0
  .grind
  grind [sj,dX]
theorem aje(h:10^d<=a):d<af (ds a):=by
 induction d generalizing a with
 |zero=>grind [Du]
 |succ d b=>grind [gE,sj,dX]
def y5(h:a<2^d):af (dec a)<=d+1:=by
 unfold dec;split
 .simp
 .have:a<10^d:=fy h (Nat.pow_le_pow_left ai d);have:=qZ this;omega
variable{C:aW}
theorem ajb(g:∀c∈C,gx c)(h:∀c m,C=c::m->c≠48):ds (dv C)=C:=by
 have:∀(r:aW),(∀c∈r,gx c)->(∀c m,r.reverse=c::m->c≠48)->ds (dv r.reverse)=r.reverse:=by
  intro r;induction r with
  |nil=>intro _ _;exact pF
  |cons c r j=>
   intro a f;have b:gx c:=a c aI;have k:=j (λx i=>a x (by simp[i])) (λx m e=>f x (m++[c]) (by simp[e]));have d:iD (48+(c.toNat-48))=c:=by rw[show 48+(c.toNat-48)=c.toNat by have:=b.1;omega];simp
   rw[List.reverse_cons,AV,Dv _ _ (by have:=b.2;omega),k,d];by_cases e:r.reverse=[]
   .right;intro l;simp_all
   grind [pF]
 have:=this C.reverse (by simpa using g) (by simpa using h);simpa using this
theorem HJ{a:Nat}(h:dec a=dec d):a=d:=by grind [sk]
def aO(q:Rat):aW:=(if q.num<0 then [45]else [])++(dec q.num.natAbs++(if q.den=1 then []else 47::dec q.den))
def pv:av->Nat
 |[]=>0
 |d::l=>d+1000000000*pv l
def S8:∀(l m:av),pv (l++m)=pv l+1000000000^(af l)*pv m
 |[],m=>by simp[pv]
 |d::l,m=>by simp only[gv,pv,dZ,dX,S8 l m,dL];rw[dy (1000000000^(af l)) 1000000000,dx,ng]
theorem asG(l:av)(d m:Nat)(h:d+1000000000*m=a):pv (l++[d])+1000000000^(af (l++[d]))*m=pv l+1000000000^(af l)*a:=by
 rw[S8,<-h,bw,iA,dX,dL];simp only[pv,gj,dG]
 grind
def asF(h:a<af g):pv (g.drop a)=g.getD a 0+1000000000*pv (g.drop (a+1)):=by rw[mQ h];simp[pv,bT,h]
def aiS(w p s:Nat)(b:s<9):w*10^(9-s)+p/10^s=10*(w*10^(9-(s+1))+p/10^(s+1))+p/10^s%10:=by have a:9-s=(9-(s+1))+1:=aa;rw[a,dX,dX,<-qO,<-dx];omega
def rl:av->av->Int
 |x::a,y::b=>if x=y then rl a b else if y<x then-1 else 1
 |[],[]=>0
 |[],_::_=>1
 |_::_,[]=> -1
def ord(a b:av):Int:=if a.sum=b.sum then rl a.reverse b.reverse else if a.sum<b.sum then-1 else 1
def Tw:∀a,rl a a=0
 |[]=>rfl
 |x::a=>by simp[rl,Tw a]
def Tx:∀a b,rl b a= -rl a b
 |[],[]=>rfl
 |[],_::_=>rfl
 |_::_,[]=>rfl
 |x::a,y::b=>by
  simp only[rl];by_cases h:x=y
  .subst h;simp[Tx a b]
  .rw[ao h,ao (λe=>h e.symm)];by_cases c:y<x
   .rw[ay c,ao aa];rfl
   .rw[ao c,ay aa]
def Tz:∀ {a b:av},rl a b=0->a=b
 |[],[],_=>rfl
 |[],_::_,h=>by cases h
 |_::_,[],h=>by cases h
 |x::a,y::b,h=>by
  simp only[rl]at h;by_cases e:x=y
  .rw[ay e]at h;rw[e,Tz h]
  .rw[ao e]at h;split at h<;>cases h
def att(a b:av):rl a b= -1\/rl a b=0\/rl a b=1:=by
 induction a generalizing b with
 |nil=>cases b with
  |nil=>exact .inr (.inl rfl)
  |cons y b=>exact .inr (.inr rfl)
 |cons x a c=>
  cases b with
  |nil=>exact .inl rfl
  |cons y b=>
   simp only[rl];split
   .exact c b
   .split
    .exact .inl rfl
    .exact .inr (.inr rfl)
def Ty:∀ {a b c:av},0<=rl a b->0<=rl b c->0<=rl a c
 |[],[],_,_,h=>h
 |[],_::_,[],_,h=>by simp[rl]at h
 |[],_::_,_::_,_,_=>by simp[rl]
 |_::_,[],_,h,_=>by simp[rl]at h
 |_::_,_::_,[],_,h=>by simp[rl]at h
 |x::a,y::b,z::c,f,d=>by
  simp only[rl]at*;by_cases g:x=y
  .subst g;rw[ay rfl]at f;by_cases e:x=z
   .subst e;rw[ay rfl]at d⊢;exact Ty f d
   .rw[ao e]at d⊢;exact d
  .rw[ao g]at f;have i:x<y:=by
    by_cases h:y<x
    .rw[ay h]at f;exact absurd f ai
    .omega
   by_cases e:y=z
   .subst e;rw[ao g,ao aa];decide
   .rw[ao e]at d;have j:y<z:=by
     by_cases h:z<y
     .rw[ay h]at d;exact absurd d ai
     .omega
    rw[ao aa,ao aa];decide
theorem arX(a:av):ord a a=0:=by simp[ord,Tw]
def SP(a b:av):ord b a= -ord a b:=by
 unfold ord;by_cases h:a.sum=b.sum
 .rw[ay h,ay h.symm,Tx]
 .rw[ao h,ao (λe=>h e.symm)];by_cases c:a.sum<b.sum
  .rw[ay c,ao aa];rfl
  .rw[ao c,ay aa]
def SR{a:av}(h:ord a g=0):a=g:=by
 unfold ord at h;split at h
 .have:=Tz h;simpa using this
 .split at h<;>cases h
def SQ(a b:av):ord a b= -1\/ord a b=0\/ord a b=1:=by
 unfold ord;split
 .exact att _ _
 .split
  .exact .inl rfl
  .exact .inr (.inr rfl)
def arY{a c:av}(e:0<=ord a g)(b:0<=ord g c):0<=ord a c:=by
 unfold ord at*;by_cases f:a.sum=g.sum
 .rw[ay f]at e;by_cases d:g.sum=c.sum
  .rw[ay d]at b;rw[ay (f.trans d)];exact Ty e b
  .rw[ao d]at b;rw[ao aa,f];exact b
 .rw[ao f]at e;have:g.sum<a.sum:=by
   by_cases h:a.sum<g.sum
   .rw[ay h]at e;exact absurd e ai
   .omega
  have i:c.sum<=g.sum:=by
   by_cases d:g.sum=c.sum
   .omega
   .rw[ao d]at b;by_cases h:g.sum<c.sum
    .rw[ay h]at b;exact absurd b ai
    .omega
  rw[ao aa,ao aa];decide
abbrev b9:=Rat×av
abbrev aF:=List b9
def kf(a b:b9):Bool:=decide (0<=ord a.2 b.2)
def ke(l:aF):aF:=if _:af l<2 then l else vK (ke (l.take (af l/2))) (ke (l.drop (af l/2))) kf
termination_by (af l)
decreasing_by
 .rw[e8];omega
 .rw[lB];omega
variable{k:aF}
def Ke(h:af k<2):ke k=k:=by rw[ke];simp[h]
theorem Kd(h:¬(af k)<2):ke k=vK (ke (k.take (af k/2))) (ke (k.drop (af k/2))) kf:=by rw[ke];simp[h]
def wV(l:aF):(ke l).Perm l:=by
 induction d:af l using j3 generalizing l with
 |ind n a=>
  subst d;by_cases h:af l<2
  .rw[Ke h]
  .rw[Kd h];refine(List.merge_perm_append kf).trans ?_;have b:=a _ (by rw[e8];omega) (l.take (af l/2)) rfl;have c:=a _ (by rw[lB];omega) (l.drop (af l/2)) rfl;have:=b.append c;rwa[p6]at this
theorem B6(l:aF):af (ke l)=af l:=(wV l).length_eq
def avt(a b c:b9)(d:kf a b=true)(e:kf b c=true):kf a c=true:=by simp only[kf,decide_eq_true_eq]at*;exact arY d e
def avs(a b:b9):(kf a b||kf b a)=true:=by simp only[kf,vE,decide_eq_true_eq];rw[SP a.2 b.2];rcases SQ a.2 b.2 with h|h|h<;>rw[h]<;>simp
def auL(l:aF):(ke l).Pairwise λa b=>kf a b=true:=by
 induction d:af l using j3 generalizing l with
 |ind n c=>
  subst d;by_cases h:af l<2
  .rw[Ke h]
   match l,h with
   |[],_=>exact .nil
   |[a],_=>simp
  .rw[Kd h];exact List.pairwise_merge avt avs _ _ (c _ (by rw[e8];omega) _ rfl) (c _ (by rw[lB];omega) _ rfl)
def fG(c:Rat)(e:av):aF->Rat×aF
 |[]=>(c,[])
 |t::l=>if ord e t.2=0 then fG (c+t.1) e l else(c,t::l)
def xw(c:Rat)(e:av)(l:aF):(fG c e l).2.length<=af l:=by
 induction l generalizing c with
 |nil=>exact aJ _
 |cons t l a=>
  unfold fG;split
  .exact c5 (a _) (s9 _)
  .exact aJ _
def bV(l:aF):aF:=match l with
 |[]=>[]
 |t::l=>if(fG t.1 t.2 l).1.num≠0 then((fG t.1 t.2 l).1,t.2)::bV (fG t.1 t.2 l).2 else bV (fG t.1 t.2 l).2
termination_by (af l)
decreasing_by
 all_goals
  have:=xw t.1 t.2 l;simp only[dZ];omega
def xU:bV []=[]:=by rw[bV]
def xT(t:b9)(l:aF):bV (t::l)=if(fG t.1 t.2 l).1.num≠0 then((fG t.1 t.2 l).1,t.2)::bV (fG t.1 t.2 l).2 else bV (fG t.1 t.2 l).2:=by rw[bV]
def f_(l:aF):aF:=bV (ke l)
def Canon(l:aF):Prop:=(l.Pairwise λa b=>ord a.2 b.2=1)/\∀t∈l,t.1.num≠0
variable{N:b9}
def Av(a:N∈(fG h g k).2):N∈k:=by
 induction k generalizing h with
 |nil=>exact a
 |cons u k b=>
  unfold fG at a;split at a
  .exact pq _ (b a)
  .exact a
def Vq(c:Rat)(e:av)(l:aF):∃m,l=m++(fG c e l).2:=by
 induction l generalizing c with
 |nil=>exact⟨[],rfl⟩
 |cons u l b=>
  unfold fG;split
  .obtain⟨m,a⟩:=b (c+u.1);exact⟨u::m,by rw[gv,<-a]⟩
  .exact⟨[],rfl⟩
def Vo{m:aF}(a:(fG h g k).2=N::m):ord g N.2≠0:=by
 induction k generalizing h with
 |nil=>cases a
 |cons u k c=>
  unfold fG at a;split at a
  .exact c a
  .rename_i b;have a:u::k=N::m:=a;cases a;exact b
def Re(h:N∈bV k):∃u∈k,N.2=u.2:=by
 induction d:af k using j3 generalizing k with
 |ind n e=>
  subst d;cases k with
  |nil=>rw[xU]at h;cases h
  |cons u k=>
   have hl:=xw u.1 u.2 k;have a:N∈bV (fG u.1 u.2 k).2->∃v∈u::k,N.2=v.2:=λh=>by obtain⟨v,b,c⟩:=e _ (by simp only[dZ];omega) h rfl;exact⟨v,pq _ (Av b),c⟩
   rw[xT]at h;split at h
   .rcases jr.1 h with h|h
    .exact⟨u,aI,by rw[h]⟩
    .exact a h
   .exact a h
def SO{a:av}(h:0<=ord a g)(b:ord a g≠0):ord a g=1:=by
 rcases SQ a g with e|e|e
 .rw[e]at h;exact absurd h ai
 .exact absurd e b
 .exact e
def ak9(h:k.Pairwise λa b=>kf a b=true):Canon (bV k):=by
 induction q:af k using j3 generalizing k with
 |ind n z=>
  subst q;cases k with
  |nil=>rw[xU];exact⟨.nil,λ_ h=>by cases h⟩
  |cons u k=>
   have hl:=xw u.1 u.2 k;rw[uz]at h;obtain⟨m,p⟩:=Vq u.1 u.2 k;have f:(fG u.1 u.2 k).2.Pairwise λa b=>kf a b=true:=by have:=h.2;rw[p]at this;exact(List.pairwise_append.1 this).2.1
   have g:=z _ (by simp only[dZ];omega) f rfl;rw[xT];split
   .rename_i l;refine⟨uz.2 ⟨λt ht=>?_,g.1⟩,λt ht=>?_⟩
    .obtain⟨v,hv,e⟩:=Re ht;have o:0<=ord u.2 v.2:=by simpa [kf]using h.1 v (Av hv)
     show ord u.2 t.2=1;rw[e];refine SO o λd=>?_
     have s:=SR d;cases c:(fG u.1 u.2 k).2 with
     |nil=>rw[c]at hv;cases hv
     |cons x r=>
      have i:=Vo c;rw[c]at hv f;rcases jr.1 hv with j|hv
      .rw[j]at d;exact i d
      .have y:0<=ord x.2 v.2:=by simpa [kf]using(uz.1 f).1 v hv
       have w:0<=ord u.2 x.2:=by simpa [kf]using h.1 x (Av (by rw[c];simp))
       rw[<-s,SP]at y;have:=SO w i;omega
    .rcases jr.1 ht with e|ht
     .rw[e];exact l
     .exact g.2 t ht
   .exact g
def asy(l:aF):Canon (f_ l):=ak9 (auL l)
def EB(h:N∈f_ k):∃u∈k,N.2=u.2:=by obtain⟨u,a,b⟩:=Re h;exact⟨u,(wV k).mem_iff.1 a,b⟩
def asY(a:h.num=0):h=0:=Rat.num_eq_zero.1 a
def Vp{a:Nat}(b:aM a h)(hl:∀t∈k,aM d t.1):aM (a+(d+1)*af k) (fG h g k).1:=by
 induction k generalizing h a with
 |nil=>simpa [fG]using b
 |cons u k f=>
  unfold fG;split
  .have c:=b.add (hl u aI);have:=f c (λt e=>hl t (by simp[e]));refine this.mono ?_;rw[dZ,dL];omega
  .exact b.mono aa
def ala{l:aF}(hl:∀t∈l,aM a t.1)(b:af l<=d):∀t∈bV l,aM ((a+1)*d) t.1:=by
 induction f:af l using j3 generalizing l with
 |ind m g=>
  subst f;cases l with
  |nil=>rw[xU];intro t h;cases h
  |cons u l=>
   have i:=xw u.1 u.2 l;have c:=g _ (by simp only[dZ];omega) (l:=(fG u.1 u.2 l).2) (λt ht=>hl t (pq _ (Av ht))) (by simp at b;omega) rfl;intro t ht;rw[xT]at ht;split at ht
   .rcases jr.1 ht with e|ht
    .rw[e];refine(Vp (hl u aI) (λt ht=>hl t (by simp[ht]))).mono ?_;simp only[dZ]at b;have:=eN (a+1) b;rw[dL]at this;omega
    .exact c t ht
   .exact c t ht
def JE{k:Nat}{l:aF}(hl:∀t∈l,aM k t.1):∀t∈f_ l,aM ((k+1)*af l) t.1:=ala (λt a=>hl t ((wV l).mem_iff.1 a)) (Nat.le_of_eq (B6 l))
def ak'(l:aF):af (bV l)<=af l:=by
 induction a:af l using j3 generalizing l with
 |ind n b=>
  subst a;cases l with
  |nil=>rw[xU];exact aJ _
  |cons u l=>
   have hl:=xw u.1 u.2 l;have c:=b _ (by simp only[dZ];omega) (fG u.1 u.2 l).2 rfl;rw[xT];split
   .simp only[dZ];omega
   .simp only[dZ];omega
def BG(l:aF):af (f_ l)<=af l:=by have:=ak' (ke l);rwa[B6]at this
def br(f:av->Rat):List (Rat×av)->Rat
 |[]=>0
 |t::l=>t.1*f t.2+br f l
def zh(f:av->Rat):∀l m,br f (l++m)=br f l+br f m
 |[],m=>(Rat.zero_add _).symm
 |t::l,m=>by show t.1*f t.2+br f (l++m)=t.1*f t.2+br f l+br f m;rw[zh f l m,Rat.add_assoc]
theorem akn{f:av->Rat}{l m:List (Rat×av)}(h:l.Perm m):br f l=br f m:=by
 induction h with
 |nil=>rfl
 |cons x _ c=>simp only[br,c]
 |swap x y l=>simp only[br];grind
 |trans _ _ a b=>exact a.trans b
theorem akl(f:av->Rat)(c:Rat)(e:av)(l:List (Rat×av)):(fG c e l).1*f e+br f (fG c e l).2=c*f e+br f l:=by
 induction l generalizing c with
 |nil=>rfl
 |cons u l a=>
  by_cases h:ord e u.2=0
  .rw[show fG c e (u::l)=fG (c+u.1) e l from ay h,a (c+u.1)];simp only[br,<-SR h]
   grind
  .rw[show fG c e (u::l)=(c,u::l)from ao h]
def akm(f:av->Rat)(l:List (Rat×av)):br f (bV l)=br f l:=by
 induction e:af l using j3 generalizing l with
 |ind n g=>
  subst e;cases l with
  |nil=>rw[xU]
  |cons u l=>
   have hl:=xw u.1 u.2 l;have b:=g _ (by simp only[dZ];omega) (fG u.1 u.2 l).2 rfl;have a:=akl f u.1 u.2 l;rw[xT];split
   .simp only[br];rw[b];exact a
   .rename_i d;have c:(fG u.1 u.2 l).1=0:=asY (by simpa using d);rw[c,Rat.zero_mul,Rat.zero_add]at a;rw[b,a];rfl
def xQ(f:av->Rat)(l:List (Rat×av)):br f (f_ l)=br f l:=(akm f _).trans (akn (wV l))
def fC(d e:Nat)(u v:Rat):Rat:=match e with
 |0=>1
 |1=>if d=1 then u else(u+v)/2
 |_=>u*v
theorem asm(d e:Nat)(x:Rat)(h:e<=2):fC d e x x=x^e:=by
 rcases(by omega:e=0\/e=1\/e=2)with rfl|rfl|rfl
 .show(1:Rat)=x^0;grind
 .show(if d=1 then x else(x+x)/2)=x^1;split<;>grind
 .show x*x=x^2;grind
theorem CO{m a b c s t x:Rat}(d:a<=x/\x<=b)(f:m<=s+t*a)(g:m<=s+t*b)(e:c=s+t*x):m<=c:=by
 subst e;rcases(by grind:0<=t\/t<=0)with h|h
 .have:=Rat.mul_le_mul_of_nonneg_left d.1 h
  grind
 .have:=Rat.mul_le_mul_of_nonneg_left d.2 (show 0<= -t by grind)
  grind
def tF{f g:av->Rat}:∀ {l:List (Rat×av)},(∀t∈l,f t.2=g t.2)->br f l=br g l
 |[],_=>rfl
 |t::l,h=>by show t.1*f t.2+br f l=t.1*g t.2+br g l;rw[h t aI,tF λu a=>h u (by simp[a])]
def kE(d a:Nat)(lo hi:Rat):Rat:=if a=d/\0<d then hi else lo
def kF(a:Nat)(lo hi:Rat):Rat:=if 0<a then hi else lo
theorem SX(i:Nat)(g:av->Rat):∀l:List (Rat×av),(∀t∈l,t.2.getD i 0<=2)->∃s t w,∀u v,br (λe=>fC 2 (e.getD i 0) u v*g e) l=s+t*(u+v)+w*(u*v)
 |[],_=>⟨0,0,0,λu v=>by show(0:Rat)=_;grind⟩
 |x::l,h=>by
  obtain⟨s,t,w,a⟩:=SX i g l λy b=>h y (by simp[b])
  have c:=h x aI;rcases(by omega:x.2.getD i 0=0\/x.2.getD i 0=1\/x.2.getD i 0=2)with e|e|e
  .refine⟨s+x.1*g x.2,t,w,λu v=>?_⟩;show x.1*(fC 2 (x.2.getD i 0) u v*g x.2)+br _ l=_;rw[a,e];show x.1*(1*g x.2)+_=_
   grind
  .refine⟨s,t+x.1*g x.2/2,w,λu v=>?_⟩;show x.1*(fC 2 (x.2.getD i 0) u v*g x.2)+br _ l=_;rw[a,e];show x.1*((u+v)/2*g x.2)+_=_
   grind
  .refine⟨s,t,w+x.1*g x.2,λu v=>?_⟩;show x.1*(fC 2 (x.2.getD i 0) u v*g x.2)+br _ l=_;rw[a,e];show x.1*(u*v*g x.2)+_=_
   grind
theorem SY(i:Nat)(g:av->Rat):∀l:List (Rat×av),(∀t∈l,t.2.getD i 0<=1)->∃s t,∀u v,br (λe=>fC 1 (e.getD i 0) u v*g e) l=s+t*u
 |[],_=>⟨0,0,λu v=>by show(0:Rat)=_;grind⟩
 |x::l,h=>by
  obtain⟨s,t,a⟩:=SY i g l λy b=>h y (by simp[b])
  have c:=h x aI;rcases(by omega:x.2.getD i 0=0\/x.2.getD i 0=1)with e|e
  .refine⟨s+x.1*g x.2,t,λu v=>?_⟩;show x.1*(fC 1 (x.2.getD i 0) u v*g x.2)+br _ l=_;rw[a,e];show x.1*(1*g x.2)+_=_
   grind
  .refine⟨s,t+x.1*g x.2,λu v=>?_⟩;show x.1*(fC 1 (x.2.getD i 0) u v*g x.2)+br _ l=_;rw[a,e];show x.1*(u*g x.2)+_=_
   grind
theorem SZ(i d:Nat)(p:d<=2)(g:av->Rat)(l:List (Rat×av))(hl:∀t∈l,t.2.getD i 0<=d){m lo hi:Rat}(H:∀a,a<=d->m<=br (λe=>fC d (e.getD i 0) (kE d a lo hi) (kF a lo hi)*g e) l)
 (u v:Rat) (h:lo<=u/\u<=hi) (j:lo<=v/\v<=hi):m<=br (λe=>fC d (e.getD i 0) u v*g e) l:=by
 rcases(by omega:d=0\/d=1\/d=2)with rfl|rfl|rfl
 .have b:=H 0 (aJ 0);rw[tF (g:=λe=>fC 0 (e.getD i 0) u v*g e) (λt k=>by have:=hl t k;rw[(aa:t.2.getD i 0=0)];rfl)]at b
  exact b
 .obtain⟨s,t,e⟩:=SY i g l hl;have b:=H 0 aa;have c:=H 1 aa;rw[e]at b c⊢;exact CO h b c rfl
 .obtain⟨s,t,w,e⟩:=SX i g l hl;have b:=H 0 aa;have c:=H 1 aa;have f:=H 2 aa;rw[e]at b c f⊢;have q:m<=s+t*(lo+lo)+w*(lo*lo):=b;have r:m<=s+t*(lo+hi)+w*(lo*hi):=c;have x:m<=s+t*(hi+hi)+w*(hi*hi):=f;have n:m<=(s+t*lo)+(t+w*lo)*v:=CO j b4 b4 rfl;have o:m<=(s+t*hi)+(t+w*hi)*v:=CO j b4 b4 rfl;exact CO (s:=s+t*v) (t:=t+w*v) h b4 b4 b4
def pr:av->Nat
 |[]=>1
 |d::l=>(d+1)*pr l
def dR:av->av->Nat
 |_::l,x::a=>x*pr l+dR l a
 |_,_=>0
def S3(m:av):∀l,pr (l++m)=pr l*pr m
 |[]=>(kn _).symm
 |d::l=>by show(d+1)*pr (l++m)=(d+1)*pr l*pr m;rw[S3 m l,dx]
def Js(m b:av):∀l a:av,af l=af a->dR (l++m) (a++b)=dR l a*pr m+dR m b
 |[],[],_=>by show _=0*_+_;rw[j4,eW];rfl
 |d::l,x::a,h=>by show x*pr (l++m)+dR (l++m) (a++b)=(x*pr l+dR l a)*pr m+dR m b;rw[S3,Js m b l a (Nat.succ.inj h),fT,dx,ng]
def Jt:∀l:av,dR l l+1=pr l
 |[]=>rfl
 |d::l=>by show d*pr l+dR l l+1=(d+1)*pr l;rw[ng,Jt l,fT,kn]
def BF:∀l:av,dR l (aZ (af l) 0)=0
 |[]=>rfl
 |d::l=>by show 0*pr l+dR l (aZ (af l) 0)=0;rw[BF l];omega
def asc{l a m:av}{d x:Nat}(h:af l=af a):dR (l++d::m) (a++(x+1)::aZ (af m) 0)=dR (l++d::m) (a++x::m)+1:=by rw[Js _ _ l a h,Js _ _ l a h];show _+((x+1)*pr m+dR m (aZ (af m) 0))=_+(x*pr m+dR m m)+1;have:=Jt m;rw[BF,fT];omega
def jn(D a:av):Prop:=af a=D.length/\∀i,a.getD i 0<=D.getD i 0
def vh:∀(D a:av),jn D a->dR D a<pr D
 |[],[],_=>Nat.one_pos
 |[],_::_,h=>by have:=h.1;simp at this
 |_::_,[],h=>by have:=h.1;simp at this
 |d::l,x::a,h=>by have b:x<=d:=h.2 0;have:=vh l a ⟨Nat.succ.inj h.1,λi=>h.2 (i+1)⟩;have c:x*pr l<=d*pr l:=ei _ b;show x*pr l+dR l a<(d+1)*pr l;rw[fT];omega
def bF(M V:Nat)(q:Rat):Prop:=∃z:Int,q*M=z/\z.natAbs<=V
def bF.add{V W:Nat}{q:Rat}:bF a V h->bF a W q->bF a (V+W) (h+q)
 |⟨y,b,d⟩,⟨z,c,e⟩=>⟨y+z,by rw[Rat.add_mul,b,c,Rat.intCast_add],aa⟩
theorem bF.neg{V:Nat}:bF a V h->bF a V (-h)
 |⟨y,b,c⟩=>⟨-y,by rw[Rat.neg_mul,b,Rat.intCast_neg],aa⟩
theorem bF.mul{V W:Nat}{q:Rat}:bF a V h->bF d W q->bF (a*d) (V*W) (h*q)
 |⟨y,b,e⟩,⟨z,c,f⟩=>⟨y*z,by rw[xq,<-b,<-c,Rat.natCast_mul];grind,by rw[nM];exact iP e f⟩
def bF.mono{V W:Nat}(c:V<=W):bF a V h->bF a W h
 |⟨y,b,d⟩=>⟨y,b,c5 d c⟩
theorem Rc(k:Nat):bF 1 k (k:Rat):=⟨k,by rw[Rat.intCast_natCast];grind,aa⟩
theorem bF.up{V:Nat}(k:Nat)(c:bF a V h):bF (a*k) (V*k) h:=by obtain⟨y,b,d⟩:=c;exact⟨y*k,by rw[xq,<-b,Rat.natCast_mul,Rat.intCast_natCast];grind,by rw[nM,eU];exact ei k d⟩
def Rd(q:Rat):bF q.den q.num.natAbs q:=by
 refine⟨q.num,?_,aJ _⟩;have a:(q.den:Rat)≠0:=λh=>q.den_nz (by exact_mod_cast h)
 have h:(q.num:Rat)/(q.den:Rat)=q:=by rw[<-Rat.mkRat_eq_div];exact Rat.mkRat_self q
 have b:(q.num:Rat)/(q.den:Rat)*q.den=q.num:=Rat.div_mul_cancel a;rwa[h]at b
def bF.eq{V:Nat}(f:a≠0):bF a V h->∃z:Int,h=mkRat z a/\z.natAbs<=V
 |⟨z,b,e⟩=>⟨z,by
  have d:(a:Rat)≠0:=λc=>f (by exact_mod_cast c)
  rw[Rat.mkRat_eq_div,<-b,Rat.mul_div_cancel d],e⟩
def bF.rC{V k:Nat}(b:a≠0)(d:a<2^k)(e:V<2^k)(c:bF a V h):aM k h:=by obtain⟨z,rfl,f⟩:=c.eq b;have:=mk_le z b;exact⟨aa,aa⟩
def Vn{V W:Nat}{l:List (Rat×av)}(b:bF a W h)(hl:∀t∈l,bF a V t.1):bF a (W+V*af l) (fG h g l).1:=by
 induction l generalizing h W with
 |nil=>exact b.mono (qP _ _)
 |cons u l e=>
  by_cases c:ord g u.2=0
  .rw[show fG h g (u::l)=fG (h+u.1) g l from ay c];exact(e (b.add (hl u aI)) λt d=>hl t (by simp[d])).mono (by rw[dZ,Nat.mul_succ];omega)
  .rw[show fG h g (u::l)=(h,u::l)from ao c];exact b.mono (qP _ _)
def ak_{V:Nat}{l:List (Rat×av)}(hl:∀t∈l,bF a V t.1)(b:af l<=d):∀t∈bV l,bF a (V*d) t.1:=by
 induction f:af l using j3 generalizing l with
 |ind m g=>
  subst f;cases l with
  |nil=>rw[xU];intro t h;cases h
  |cons u l=>
   have i:=xw u.1 u.2 l;have c:=g _ (by simp only[dZ];omega) (l:=(fG u.1 u.2 l).2) (λt ht=>hl t (pq _ (Av ht))) (by simp at b;omega) rfl;intro t ht;rw[xT]at ht;split at ht
   .rcases jr.1 ht with e|ht
    .rw[e];refine(Vn (hl u aI) (λt ht=>hl t (by simp[ht]))).mono ?_;simp only[dZ]at b;have:=eN V b;rw[dL]at this;omega
    .exact c t ht
   .exact c t ht
def S6{V:Nat}{l:List (Rat×av)}(hl:∀t∈l,bF a V t.1)(b:af l<=d):∀t∈f_ l,bF a (V*d) t.1:=ak_ (λt c=>hl t ((wV l).mem_iff.1 c)) (by rw[(wV l).length_eq];exact b)
def Ta(a:aM 4 h):bF 360360 5405400 h:=by
 have c:h.den∣360360:=by have:∀d:Nat,d<16->0<d->360360%d=0:=ai;exact Nat.dvd_of_mod_eq_zero (this h.den a.den h.den_pos)
 obtain⟨k,b⟩:=c;have:=(Rd h).up k;rw[<-b]at this;refine this.mono ?_;have e:k<=360360:=by rw[b];exact yI k h.den_pos
 have f:=a.num;exact c5 (iP (aa:h.num.natAbs<=15) e) ai
theorem ak4{V:Nat}{y:Rat}(i:bF a V h)(j:bF a V y)(m:d<3):bF (a*4) (V*4) (h+((1+d:Nat):Rat)/4*(y-h)):=by
 obtain⟨f,c,k⟩:=i;obtain⟨g,e,l⟩:=j;have b:((a*4:Nat):Rat)=a*4:=by rw[Rat.natCast_mul];rfl
 rcases(by omega:d=0\/d=1\/d=2)with rfl|rfl|rfl
 .refine⟨3*f+g,?_,aa⟩;rw[Rat.intCast_add,xq,<-c,<-e,b,show((1+0:Nat):Rat)=1 from rfl,show((3:Int):Rat)=3 from rfl];grind
 .refine⟨2*f+2*g,?_,aa⟩;rw[Rat.intCast_add,xq,xq,<-c,<-e,b,show((1+1:Nat):Rat)=2 from rfl,show((2:Int):Rat)=2 from rfl];grind
 .refine⟨f+3*g,?_,aa⟩;rw[Rat.intCast_add,xq,<-c,<-e,b,show((1+2:Nat):Rat)=3 from rfl,show((3:Int):Rat)=3 from rfl];grind
def tz(n:Nat):Nat:=if h:n=0\/n%2=1 then 0 else 1+tz (n/2)
termination_by n
decreasing_by omega
def Ux(h:a%2=1):tz a=0:=by rw[tz];simp[h]
def Uw(b:a≠0)(h:a%2=0):tz a=1+tz (a/2):=by
 rw[tz];rw[dif_neg];rintro(e|e)
 .exact b e
 .omega
def Cn(b:a≠0):a=2^tz a*(a/2^tz a)/\a/2^tz a%2=1:=by
 induction a using j3 with
 |ind a f=>
  by_cases h:a%2=1
  .rw[Ux h];simp[h]
  .have e:a%2=0:=aa;obtain⟨c,d⟩:=f (a/2) aa aa;rw[Uw b e,i_,dX,dy (2^_) 2,<-qO];refine⟨?_,d⟩;rw[dx,<-c];omega
def Fm{k:Nat}(e:d≠0)(h:d<2^k):tz d<k:=by obtain⟨b,f⟩:=Cn e;obtain⟨o,g⟩:∃o,o=d/2^tz d:=⟨_,rfl⟩;rw[<-g]at b f;have c:2^tz d*1<=2^tz d*o:=eN _ aa;rw[<-b,eD]at c;exact(Nat.pow_lt_pow_iff_right (a:=2) ai).1 (fu c h)
def RV(a b:Nat):a&&&b=2*(a/2&&&b/2)+(a%2&&&b%2):=by have d:=Nat.and_div_two (a:=a) (b:=b);have c:=Nat.and_mod_two_pow (a:=a) (b:=b) (n:=1);simp only[Nat.pow_one]at c;omega
def RW:∀(w m:Nat),m<2^w->m&&&(2^w-1-m)=0
 |0,m,h=>by
  have:m=0:=by simp at h;exact h
  rw[this];simp
 |w+1,m,h=>by
  have b:2^(w+1)=2*2^w:=by rw[dX,dy]
  have c:0<2^w:=gE ai;rw[RV];have a:(2^(w+1)-1-m)/2=2^w-1-m/2:=aa;rw[a,RW w (m/2) aa];rcases Nat.mod_two_eq_zero_or_one m with h0|h0
  .rw[h0];simp
  .have:(2^(w+1)-1-m)%2=0:=aa;rw[this];simp
def RX:∀(w n:Nat),n≠0->n<2^w->n&&&(2^w-n)=2^tz n
 |0,n,b,h=>by simp at h;exact absurd h b
 |w+1,n,b,h=>by
  have d:2^(w+1)=2*2^w:=by rw[dX,dy]
  rw[RV];rcases Nat.mod_two_eq_zero_or_one n with he|he
  .have a:(2^(w+1)-n)/2=2^w-n/2:=aa;rw[a,RX w (n/2) aa aa,he,Uw b he,i_ 1,dX];simp;omega
  .have a:(2^(w+1)-n)/2=2^w-1-n/2:=aa;have c:(2^(w+1)-n)%2=1:=aa;rw[a,RW w (n/2) aa,he,c,Ux he];simp
def Je(k:Nat)(c:a%2=1):c9 a (2^k*d)=c9 a d:=by
 have b:Nat.Coprime 2 a:=by have:=Nat.gcd_rec 2 a;rw[c]at this;rw[Nat.Coprime,this];decide
 exact Nat.Coprime.gcd_mul_left_cancel_right d (b.pow_left k)
def arN(k:Nat)(b:a%2=1):c9 (2^k*d) a=c9 d a:=by rw[rX,Je k b,rX]
def akV{y:Nat}(r:d≠0)(F:y≠0):c9 d y=2^tz (d|||y)*c9 (d/2^tz d) y:=by
 have t:d|||y≠0:=λe=>r (Nat.or_eq_zero_iff.1 e).1
 obtain⟨m,i⟩:=Cn t;obtain⟨k,v⟩:∃k,k=tz (d|||y):=⟨_,rfl⟩;rw[<-v]at m i⊢;have w:(d|||y)%2^k=0:=by rw[m];exact Nat.mul_mod_right _ _
 rw[Nat.or_mod_two_pow,Nat.or_eq_zero_iff]at w;have c:d=2^k*(d/2^k):=by have:=kj d (2^k);omega
 have l:y=2^k*(y/2^k):=by have:=kj y (2^k);omega
 obtain⟨X,p⟩:∃X,X=d/2^k:=⟨_,rfl⟩;obtain⟨Y,q⟩:∃Y,Y=y/2^k:=⟨_,rfl⟩;rw[Nat.or_div_two_pow,<-p,<-q]at i;rw[<-p]at c;rw[<-q]at l;obtain⟨g,s⟩:=Cn r;obtain⟨o,x⟩:∃o,o=d/2^tz d:=⟨_,rfl⟩;rw[<-x]at g s⊢;have u:c9 d y=2^k*c9 X Y:=by rw[c,l,Nat.gcd_mul_left]
 have A:c9 o y=c9 o Y:=by rw[l,Je k s]
 rw[u,A];congr 1;have C:k<=tz d:=by
  refine k4 λD=>?_
  have e:2^k=2^tz d*(2*2^(k-tz d-1)):=by rw[<-Nat.pow_succ',<-iB];congr 1;omega
  rw[e]at c;rw[dx,dx]at c;have:=Nat.eq_of_mul_eq_mul_left (gE ai) (g.symm.trans c);omega
 have j:X=2^(tz d-k)*o:=by
  have e:2^tz d=2^k*2^(tz d-k):=by rw[<-iB];congr 1;omega
  rw[e,dx]at g;exact Nat.eq_of_mul_eq_mul_left (gE (n:=k) (ai:0<2)) (c.symm.trans g)
 have z:X%2=1\/Y%2=1:=by
  have f:=Nat.or_mod_two_pow (a:=X) (b:=Y) (n:=1);simp only[Nat.pow_one]at f;rw[i]at f;rcases Nat.mod_two_eq_zero_or_one X with h4|h4
  .rcases Nat.mod_two_eq_zero_or_one Y with h5|h5
   .rw[h4,h5]at f;simp at f
   .exact .inr h5
  .exact .inl h4
 rcases z with h|h
 .have B:tz d-k=0:=by
   refine Nat.eq_zero_of_not_pos λE=>?_
   have e:2^(tz d-k)=2*2^(tz d-k-1):=by rw[<-Nat.pow_succ'];congr 1;omega
   rw[j,e,dx]at h;omega
  rw[j,B,r0,kn]
 .rw[j,arN _ h]
structure p0 (fP lU cu u1 u2 v0 v1 v2 f s:Nat) (j_:Bool):Prop where
 hF:fP=v2*f+v1*s
 hS:lU=u2*f+u1*s
 hd:(j_=true->u2*v1=u1*v2+1)/\(j_=false->u1*v2=u2*v1+1)
 sf:s<=f
 fp:1<=f
 KB:1<=v2
 KA:u2<=v2
 ph:(v1=0/\v0=0/\u1=1/\u2=0/\v2=1)\/(1<=v1/\u1<=v1/\(v0=0/\j_=true\/1<=v0/\cu<=v0)/\∃p,fP=v1*p+v0*f/\lU=u1*p+cu*f/\v1<=f/\f+v0+v1<=p/\(j_=true->cu*v1=u1*v0+1)/\(j_=false->u1*v0=cu*v1+1))
def p0.start(h:d<=a)(b:1<=a):p0 a d 0 1 0 0 0 1 a d false:=⟨aa,aa,⟨(λh=>by cases h),λ_=>rfl⟩,h,b,aJ _,aa,.inl ⟨rfl,rfl,rfl,rfl,rfl⟩⟩
def tN{a:Nat}(h:1<=d):a<=a*d:=by have:=eN a h;omega
section
variable {fP lU cu u1 u2 v0 v1 v2 f s:Nat}{j_:Bool}
def p0.small(h:p0 fP lU cu u1 u2 v0 v1 v2 f s j_):v2<=fP/\(1<=s->v1+v2<=fP):=by have b:=h.hF;have c:v2<=v2*f:=tN h.fp;refine⟨aa,λa=>?_⟩;have d:v1<=v1*s:=tN a;omega
theorem p0.step(h:p0 fP lU cu u1 u2 v0 v1 v2 f s j_)(m:v2<=s)(y:s+(v1+v2)<=f):p0 fP lU u1 u2 (u1+f/s*u2) v1 v2 (v1+f/s*v2) s (f%s) (!j_):=by
 have o:=h.KB;have k:0<s:=aa;obtain⟨q,i⟩:∃q,q=f/s:=⟨_,rfl⟩;obtain⟨r,j⟩:∃r,r=f%s:=⟨_,rfl⟩;have B:f=s*q+r:=by rw[i,j];exact(kj f s).symm
 have E:r<s:=by rw[j];exact fD _ k
 have n:1<=q:=by rw[i];exact(vO k).2 aa
 rw[<-i,<-j];clear i j;have z:=h.hF;have A:=h.hS;have p:v2*f=v2*s*q+v2*r:=b4;have t:u2*f=u2*s*q+u2*r:=b4;have u:(v1+q*v2)*s=v1*s+v2*s*q:=by grind
 have v:(u1+q*u2)*s=u1*s+u2*s*q:=by grind
 have w:(u1+q*u2)*v2=u1*v2+u2*v2*q:=by grind
 have x:u2*(v1+q*v2)=u2*v1+u2*v2*q:=by grind
 have D:v2<=q*v2:=by rw[dy];exact tN n
 have l:=h.KA;have C:q*u2<=q*v2:=eN _ l;refine⟨aa,aa,⟨λg=>?_,λg=>?_⟩,aa,aa,aa,?_,.inr ⟨o,l,?_,f,aa,aa,m,aa,λg=>?_,λg=>?_⟩⟩
 .have:=h.hd.2 (by simpa using g);omega
 .have:=h.hd.1 (by simpa using g);omega
 .rcases h.ph with⟨a,b,c,d,e⟩|⟨a,b,_⟩
  .grind
  .omega
 .rcases h.ph with⟨a,b,c,d,e⟩|⟨a,b,_⟩
  .refine .inl ⟨a,?_⟩;cases j_ with
   |false=>rfl
   |true=>
    have:=h.hd.1 rfl
    grind
  omega
 .have:=h.hd.2 (by simpa using g);omega
 .have:=h.hd.1 (by simpa using g);omega
structure vH (a b cu u1 v0 v1:Nat) (j_:Bool) (a' b':Nat):Prop where
 Jc:j_=true->cu*a=v0*b+a'/\v1*b=u1*a+b'
 ev:j_=false->v0*b=cu*a+a'/\u1*a=v1*b+b'
 le:b'<=a'
 ba:a=v1*a'+v0*b'
 bb:b=u1*a'+cu*b'
theorem p0.pair(h:p0 fP lU cu u1 u2 v0 v1 v2 f s j_)(j:v0≠0){X a:Nat}(E:a=X*fP+d)(l:d<X)(F:D=X*lU+m)(n:m<X):∃o q,vH a D cu u1 v0 v1 j_ o q:=by
 rcases h.ph with⟨_,k,_⟩|⟨k,t,b,p,c,e,u,v,w,x⟩
 .exact absurd k j
 rcases b with⟨b,_⟩|⟨_,b⟩
 .exact absurd b j
 have G:v0*m<=v0*X:=eN _ (ja n);have H:cu*d<=cu*X:=eN _ (ja l);have I:v1*m<=v1*X:=eN _ (ja n);have J:u1*d<=u1*X:=eN _ (ja l);have K:cu*X<=v0*X:=ei _ b;have L:u1*X<=v1*X:=ei _ t;have M:f*X+v0*X+v1*X<=p*X:=by rw[<-fT,<-fT];exact ei _ v
 have N:v1*X<=f*X:=ei _ u;cases j_ with
 |true=>
  have r:=w rfl;have y:cu*fP=v0*lU+p:=by have:cu*v1*p=u1*v0*p+p:=b4;rw[c,e,dL,dL,<-dx,<-dx,<-dx,<-dx,dy v0 u1,dy v0 cu];omega
  have z:v1*lU=u1*fP+f:=by have:cu*v1*f=u1*v0*f+f:=b4;rw[c,e,dL,dL,<-dx,<-dx,<-dx,<-dx,dy v1 u1,dy v1 cu];omega
  have bX:cu*a=X*(v0*lU)+p*X+cu*d:=by grind
  have A:v0*D=X*(v0*lU)+v0*m:=by grind
  have B:v1*D=X*(u1*fP)+f*X+v1*m:=by grind
  have C:u1*a=X*(u1*fP)+u1*d:=by grind
  refine⟨p*X+cu*d-v0*m,f*X+v1*m-u1*d,⟨λ_=>⟨aa,aa⟩,λh=>(by cases h),aa,?_,?_⟩⟩
  .have g:cu*a=v0*D+(p*X+cu*d-v0*m):=aa;have i:v1*D=u1*a+(f*X+v1*m-u1*d):=aa
   grind
  .have g:cu*a=v0*D+(p*X+cu*d-v0*m):=aa;have i:v1*D=u1*a+(f*X+v1*m-u1*d):=aa
   grind
 |false=>
  have r:=x rfl;have y:v0*lU=cu*fP+p:=by have:u1*v0*p=cu*v1*p+p:=b4;rw[c,e,dL,dL,<-dx,<-dx,<-dx,<-dx,dy v0 u1,dy v0 cu];omega
  have z:u1*fP=v1*lU+f:=by have:u1*v0*f=cu*v1*f+f:=b4;rw[c,e,dL,dL,<-dx,<-dx,<-dx,<-dx,dy v1 u1,dy v1 cu];omega
  have bX:v0*D=X*(cu*fP)+p*X+v0*m:=by grind
  have A:cu*a=X*(cu*fP)+cu*d:=by grind
  have B:u1*a=X*(v1*lU)+f*X+u1*d:=by grind
  have C:v1*D=X*(v1*lU)+v1*m:=by grind
  refine⟨p*X+v0*m-cu*d,f*X+u1*d-v1*m,⟨λh=>(by cases h),λ_=>⟨aa,aa⟩,aa,?_,?_⟩⟩
  .have g:v0*D=cu*a+(p*X+v0*m-cu*d):=aa;have i:u1*a=v1*D+(f*X+u1*d-v1*m):=aa
   grind
  .have g:v0*D=cu*a+(p*X+v0*m-cu*d):=aa;have i:u1*a=v1*D+(f*X+u1*d-v1*m):=aa
   grind
end
variable{n:Bool}
theorem vH.gcd{a v1 f g:Nat}(h:vH a d m D O v1 n f g):c9 f g=c9 a d:=by
 refine Nat.dvd_antisymm (Nat.dvd_gcd ?_ ?_) (Nat.dvd_gcd ?_ ?_)
 .rw[h.ba]
  grind [Nat.dvd_add,Nat.dvd_trans,Nat.gcd_dvd_left,Nat.dvd_mul_left,xe]
 .rw[h.bb]
  grind [Nat.dvd_add,Nat.dvd_trans,Nat.gcd_dvd_left,Nat.dvd_mul_left,xe]
 .have b:∀x,c9 a d∣x*a:=λx=>Nat.dvd_trans (Nat.gcd_dvd_left _ _) (Nat.dvd_mul_left _ _)
  have c:∀x,c9 a d∣x*d:=λx=>Nat.dvd_trans (xe _ _) (Nat.dvd_mul_left _ _)
  cases n with
  |true=>have e:=(h.Jc rfl).1;exact(Nat.dvd_add_right (c O)).1 (e▸b m)
  |false=>have e:=(h.ev rfl).1;exact(Nat.dvd_add_right (b m)).1 (e▸c O)
 .have b:∀x,c9 a d∣x*a:=λx=>Nat.dvd_trans (Nat.gcd_dvd_left _ _) (Nat.dvd_mul_left _ _)
  have c:∀x,c9 a d∣x*d:=λx=>Nat.dvd_trans (xe _ _) (Nat.dvd_mul_left _ _)
  cases n with
  |true=>have e:=(h.Jc rfl).2;exact(Nat.dvd_add_right (b D)).1 (e▸c v1)
  |false=>have e:=(h.ev rfl).2;exact(Nat.dvd_add_right (c v1)).1 (e▸b D)
def vH.less{a v1 b c:Nat}(h:vH a d m D O v1 n b c)(e:1<=O)(f:1<=v1)(g:0<d):b+c<a+d:=by
 have:=h.ba;have i:b<=v1*b:=by rw[dy];exact tN f
 have j:c<=O*c:=by rw[dy];exact tN e
 omega
theorem aqY(q:d<18446744073709551616)(r:m<18446744073709551616):∃a b c e,d%4294967296*(m%4294967296)=a/\d/4294967296*(m%4294967296)=b/\d%4294967296*(m/4294967296)=c/\d/4294967296*(m/4294967296)=e/\
 a<=18446744065119617025/\b<=18446744065119617025/\c<=18446744065119617025/\e<=18446744065119617025/\d*m=e*18446744073709551616+(b+c)*4294967296+a:=by
 have o:d=d/4294967296*4294967296+d%4294967296:=aa;have p:m=m/4294967296*4294967296+m%4294967296:=aa;have j:d/4294967296<=4294967295:=aa;have k:m/4294967296<=4294967295:=aa;have l:d%4294967296<=4294967295:=aa;have n:m%4294967296<=4294967295:=aa;obtain⟨u,g⟩:∃t,t=d/4294967296:=⟨_,rfl⟩;obtain⟨w,i⟩:∃t,t=m/4294967296:=⟨_,rfl⟩;obtain⟨s,f⟩:∃t,t=d%4294967296:=⟨_,rfl⟩;obtain⟨v,h⟩:∃t,t=m%4294967296:=⟨_,rfl⟩;rw[<-g,<-f]at o;rw[<-i,<-h]at p;rw[<-g]at j;rw[<-i]at k;rw[<-f]at l;rw[<-h]at n;rw[<-g,<-i,<-f,<-h];refine⟨_,_,_,_,rfl,rfl,rfl,rfl,iP l n,iP j n,iP l k,iP j k,?_⟩
 grind
structure m8 (u d v1 v0 q r:Nat):Prop where
 top:u=q*v1+r
 ge:(u*4294967296+d)/(v1*4294967296+v0)<=q
theorem m8.start(c:d<4294967296)(b:0<m):m8 a d m D (a/m) (a%m):=by refine⟨by grind [dy,kj],?_⟩;have e:0<m*4294967296+D:=aa;refine D9 (top:=a) (u2:=d) (v1:=m) (v2:=D) (W:=1) (pe:=0) (nJ:=0) (V:=m*4294967296+D) (U:=a*4294967296+d) aa aa aa c b ?_;exact yH _ _
theorem m8.down{r:Nat}(h:m8 a d m D O r)(g:d<4294967296)(c:0<m)(b:r*4294967296+d<O*D):m8 a d m D (O-1) (r+m):=by
 have f:=D_ (q:=(a*4294967296+d)/(m*4294967296+D)) (top:=a) (u2:=d) (v1:=m) (v2:=D) (h:=O) (r:=r) (W:=1) (pe:=0) (nJ:=0) (V:=m*4294967296+D) (U:=a*4294967296+d) aa aa aa (yH _ _) h.top b;have e:O*m=(O-1)*m+m:=by
  cases O with
  |zero=>omega
  |succ O=>grind
 exact⟨by have:=h.top;omega,aa⟩
def m8.done{r:Nat}(h:m8 a d m D O r)(b:0<m)(c:O*D<=r*4294967296+d):O=(a*4294967296+d)/(m*4294967296+D):=by refine Nat.le_antisymm ?_ h.ge;rw[vO aa,dL,<-dx];have:=h.top;omega
def dp:Nat->Nat->aW
 |0,_=>[]
 |k+1,m=>iD (48+m/10^k%10)::dp k m
def HQ:∀k m,af (dp k m)=k
 |0,_=>rfl
 |k+1,m=>by rw[dp,dZ,HQ k m]
def ofNat_toNat(h:a<10):(iD (48+a)).toNat=48+a:=by simp_all;omega
def HR:∀k m,dp (k+1) m=dp k (m/10)++[iD (48+m%10)]
 |0,m=>by simp[dp]
 |k+1,m=>by rw[dp,HR k m,dp,qO,dX,dy 10];rfl
def PX(a:Nat)(b:a≠0):∀k r,r<10^k->ds (a*10^k+r)=ds a++dp k r
 |0,r,h=>by
  have:r=0:=by simpa using h
  subst this;simp[dp]
 |k+1,r,h=>by
  have e:a*10^(k+1)+r=10*(a*10^k+r/10)+r%10:=by rw[dX,dy (10^k),Nat.mul_left_comm];omega
  have c:0<10^k:=gE ai;have d:0<a*10^k:=s_ (lC b) c;rw[e,Dv _ _ (fD _ ai) (.inl aa),PX a b k (r/10) (by rw[dX]at h;omega),HR,gX]
theorem PT:∀k m,10^k<=m->m<10^(k+1)->dp (k+1) m=ds m
 |0,m,a,b=>by rw[sj aa,(aa:m/10=0),pF];simp[dp]
 |k+1,m,a,b=>by rw[HR,sj (by have:0<10^(k+1):=gE ai;omega),PT k (m/10) (by rw[dX]at a;omega) (by rw[dX]at b;omega)]
theorem y7(e:0<a)(h1:a=1\/10^(a-1)<=d)(c:d<10^a):dp a d=dec d:=by
 obtain⟨a,rfl⟩:∃j,a=j+1:=⟨a-1,aa⟩;unfold dec;by_cases b:d=0
 .subst b;rw[ay rfl];rcases h1 with h1|h1
  .have:a=0:=aa;subst this;simp[dp]
  grind
 .rw[ao b]
  grind [PT]
def ai9(k m q:Nat)(a:q=m/10^k):dp (k+1) m=iD (48+q%10)::dp k m:=by rw[dp,a]
def xK(k m x:Nat)(a:x=m/10^k%100):dp (k+2) m=iD (48+x/10)::iD (48+x%10)::dp k m:=by
 have b:m/10^(k+1)%10=x/10:=by rw[a,dX,<-qO];omega
 have c:m/10^k%10=x%10:=by rw[a];omega
 rw[dp,dp,b,c]
def A7(c:UInt8):Bool:=decide (gx c)
def fH(s:aW):aW:=s.takeWhile A7
def gS(s:aW):aW:=s.dropWhile A7
theorem xI(s:aW):fH s++gS s=s:=List.takeWhile_append_dropWhile
theorem v7(s:aW):∀c∈fH s,gx c:=by
 induction s with
 |nil=>intro c h;cases h
 |cons a s b=>
  intro c h;unfold fH at h b;rw[List.takeWhile_cons]at h;split at h
  .rename_i d;rcases jr.1 h with rfl|h
   .exact of_decide_eq_true d
   .exact b c h
  .cases h
def atJ{c:UInt8}{t:aW}(h:gS C=c::t):¬gx c:=by
 induction C with
 |nil=>cases h
 |cons a C b=>
  unfold gS at h b;rw[List.dropWhile_cons]at h;split at h
  .exact b h
  .rename_i d;cases h;exactλe=>d (b3 e)
def PK{a b:aW}(d:∀c∈a,gx c)(e:∀c t,b=c::t->¬gx c):fH (a++b)=a/\gS (a++b)=b:=by
 induction a with
 |nil=>
  cases b with
  |nil=>exact⟨rfl,rfl⟩
  |cons c t=>have:=e c t rfl;unfold fH gS;rw[fS,List.takeWhile_cons,List.dropWhile_cons,ao (by unfold A7;simpa using this),ao (by unfold A7;simpa using this)];exact⟨rfl,rfl⟩
 |cons x a g=>obtain⟨h,i⟩:=g (λc f=>d c (by simp[f]));have j:A7 x=true:=b3 (d x aI);unfold fH gS at*;simp_all
structure Ao where
 neg:Bool
 num:List UInt8
 den:List UInt8
 ok:Bool
def eL(s:aW):Ao:=
 let neg:=decide (s.take 1=[45]);let r:=if s.take 1=[45]then s.drop 1 else s
 let n:=fH r;let t:=gS r
 if n=[48]then⟨neg,n,[], !neg&&decide (t=[])⟩
 else if n=[]\/n.head?=some 48 then⟨neg,n,[],false⟩
 else if t=[]then⟨neg,n,[],true⟩
 else if t.head?≠some 47 then⟨neg,n,[],false⟩
 else⟨neg,n,fH (t.drop 1),decide (gS (t.drop 1)=[]/\fH (t.drop 1)≠[]/\(fH (t.drop 1)).head?≠some 48/\fH (t.drop 1)≠[49])⟩
def vZ(q:Rat):aW:=if q.den=1 then []else dec q.den
def numOf(s:aW):Option Rat:=
 if(eL s).ok=true/\((eL s).den=[]\/c9 (dv (eL s).num) (dv (eL s).den)=1)then
  some (mkRat (if(eL s).neg then-(dv (eL s).num:Int)else(dv (eL s).num:Int)) (if(eL s).den=[]then 1 else dv (eL s).den))
 else none
theorem Pz(h:a≠0):(dec a).head?≠some 48:=by
 have b:dec a=ds a:=ao h;rw[b];cases e:ds a with
 |nil=>simp
 |cons c l=>grind [ajc]
theorem Px:dec a=[48]↔a=0:=by
 constructor
 .intro h;have b:dec 0=[48]:=rfl
  grind [HJ]
 .intro h;rw[h];rfl
theorem Py:dec a=[49]↔a=1:=by
 have b:dec 1=[49]:=by show(if 1=0 then _ else ds 1)=_;rw[ao ai,sj ai,show 1/10=0 from rfl,pF];rfl
 grind [HJ]
theorem PZ(d:∀c∈C,gx c)(f:C≠[])(h:C.head?≠some 48):dec (dv C)=C/\dv C≠0:=by
 have b:ds (dv C)=C:=ajb d (λc m e=>by grind);have a:dv C≠0:=λe=>by grind [pF]
 exact⟨(ao a).trans b,a⟩
theorem E2(q:Rat):eL (aO q)=⟨decide (q.num<0),dec q.num.natAbs,vZ q,true⟩:=by
 obtain⟨r,b⟩:∃r,r=(if q.den=1 then([]:aW)else 47::dec q.den):=⟨_,rfl⟩;have l:aO q=(if q.num<0 then [45]else [])++(dec q.num.natAbs++r):=by rw[b];rfl
 have w:∀c t,r=c::t->¬gx c:=by
  intro c t e;rw[b]at e;split at e
  .cases e
  .cases e;decide
 obtain⟨o,p⟩:=PK (vY q.num.natAbs) w;have y:¬(dec q.num.natAbs++r).take 1=[45]:=by
  intro j;cases f:dec q.num.natAbs with
  |nil=>exact uO _ f
  |cons c m=>
   rw[f]at j;have:c=45:=by simpa using j
   have k:=vY q.num.natAbs c (by rw[f];simp);rw[this]at k;exact absurd k ai
 have u:decide ((aO q).take 1=[45])=decide (q.num<0):=by
  refine decide_eq_decide.2 ?_;rw[l];by_cases h:q.num<0
  .grind
  .grind
 have x:(if(aO q).take 1=[45]then(aO q).drop 1 else aO q)=dec q.num.natAbs++r:=by
  rw[l];by_cases h:q.num<0
  .rw[ay h];rfl
  .grind
 unfold eL;simp only[u,x,o,p];by_cases n:q.num=0
 .have a:q.den=1:=by rw[Rat.num_eq_zero.1 n];rfl
  rw[ay (Px.2 aa),b,ay a];unfold vZ
  grind
 .have s:q.num.natAbs≠0:=aa;rw[ao (λe=>s (Px.1 e)),ao (by grind [uO,Pz])];by_cases a:q.den=1
  .have d:r=[]:=by rw[b,ay a]
   rw[ay d];unfold vZ;rw[ay a]
  .have d:r=47::dec q.den:=by rw[b,ao a]
   obtain⟨g,i⟩:=PK (a:=dec q.den) (b:=[]) (vY q.den) (λc t h=>by cases h);rw[hU]at g i;rw[ao (by rw[d];simp),ao (by rw[d];simp),d];simp only[List.drop_succ_cons,List.drop_zero,g,i];unfold vZ;have v:decide (True/\dec q.den≠[]/\(dec q.den).head?≠some 48/\dec q.den≠[49])=true:=b3 ⟨trivial,uO _,Pz q.den_nz,λe=>a (Py.1 e)⟩;rw[ao a,v]
theorem rz(q:Rat):numOf (aO q)=some q:=by
 unfold numOf;rw[E2];simp only[sk];have b:(if decide (q.num<0)=true then-(q.num.natAbs:Int)else(q.num.natAbs:Int))=q.num:=by
  by_cases h:q.num<0
  .grind
  .grind
 unfold vZ;by_cases a:q.den=1
 .rw[ay a,ay ⟨trivial,.inl rfl⟩,ay rfl,b];congr 1
  grind [Rat.mkRat_self]
 .rw[ao a,sk,ay ⟨trivial,.inr q.reduced⟩,ao (uO _),b];simp_all
theorem avj(h:C.take 1=[45]):C=45::C.drop 1:=by
 cases C with
 |nil=>cases h
 |cons c t=>grind
theorem Ut{neg:Bool}(h:a≠0)(c:d≠0)(e:c9 a d=1):aO (mkRat (if neg then-(a:Int)else(a:Int)) d)=(if neg then [45]else [])++(dec a++(if d=1 then []else 47::dec d)):=by
 have b:(if neg then-(a:Int)else(a:Int)).natAbs=a:=by cases neg<;>simp
 obtain⟨f,g⟩:=mk_one (n:=if neg then-(a:Int)else(a:Int)) c (by rw[b];exact e);unfold aO
 grind
theorem Bw(g:numOf C=some h):C=aO h:=by
 unfold numOf at g;split at g
 .rename_i E;obtain⟨f,i⟩:=E;have a:=Option.some.inj g;clear g;obtain⟨neg,o⟩:∃b,b=decide (C.take 1=[45]):=⟨_,rfl⟩;obtain⟨r,p⟩:∃r,r=if C.take 1=[45]then C.drop 1 else C:=⟨_,rfl⟩
  have v:C=(if neg then [45]else [])++r:=by
   by_cases g:C.take 1=[45]
   .rw[o,p,ay g,b3 g,ay rfl];exact avj g
   .grind
  have L:eL C=(if fH r=[48]then(⟨neg,fH r,[], !neg&&decide (gS r=[])⟩:Ao)else if fH r=[]\/(fH r).head?=some 48 then⟨neg,fH r,[],false⟩else if gS r=[]then⟨neg,fH r,[],true⟩else if(gS r).head?≠some 47 then⟨neg,fH r,[],false⟩else⟨neg,fH r,fH ((gS r).drop 1),decide (gS ((gS r).drop 1)=[]/\fH ((gS r).drop 1)≠[]/\(fH ((gS r).drop 1)).head?≠some 48/\fH ((gS r).drop 1)≠[49])⟩):=by rw[o,p];rfl
  clear o p;have u:=xI r;have J:=v7 r;rw[L]at f i a;generalize fH r=n at*
  generalize gS r=t at*
  by_cases s:n=[48]
  .rw[ay s]at f i a;have k:neg=false/\t=[]:=by have:(!neg&&decide (t=[]))=true:=f;simpa using this
   obtain⟨rfl,rfl⟩:=k;subst s;rw[v,<-u,<-a];rfl
  .rw[ao s]at f i a;by_cases k:n=[]\/n.head?=some 48
   .grind
   .rw[ao k]at f i a;obtain⟨y,z⟩:=PZ J (λe=>k (.inl e)) (λe=>k (.inr e));by_cases l:t=[]
    .rw[ay l]at f i a;subst l;simp only[if_true]at a;rw[v,<-u,<-a,Ut z ai (xg _),y,ay rfl]
    .rw[ao l]at f i a;by_cases D:t.head?≠some 47
     .grind
     .rw[ao D]at f i a;obtain⟨j,w⟩:∃j,t=47::j:=by
       cases t with
       |nil=>exact absurd rfl l
       |cons c m=>grind
      have H:t.drop 1=j:=by rw[w];rfl
      rw[H]at f i a;have K:=xI j;have G:=v7 j;generalize fH j=d at*
      generalize gS j=e at*
      obtain⟨A,q,g3,B⟩:=of_decide_eq_true f;obtain⟨x,M⟩:=PZ G q g3;have I:c9 (dv n) (dv d)=1:=i.resolve_left q;have F:dv d≠1:=λe=>B (by rw[<-x,e];exact Py.2 rfl)
      simp only[ao q]at a;rw[v,<-u,<-a,Ut z M I,y,x,ao F,w,<-K,A,hU]
 .cases g
def Bd(d:Nat)(u v:Rat)(x:Nat->Rat):Rat:=match d with
 |0=>x 0
 |1=>x 0+x 1*u
 |_=>x 0+x 1*((u+v)/2)+x 2*(u*v)
theorem Ei(i d:Nat)(b:d<=2)(u v:Rat)(g:av->Rat):∀l:List (Rat×av),(∀t∈l,t.2.getD i 0<=d)->Bd d u v (λk=>br (λe=>if e.getD i 0=k then g e else 0) l)=br (λe=>fC d (e.getD i 0) u v*g e) l
 |[],_=>by
  rcases(by omega:d=0\/d=1\/d=2)with rfl|rfl|rfl
  .rfl
  .show(0:Rat)+0*u=0;grind
  .show(0:Rat)+0*((u+v)/2)+0*(u*v)=0;grind
 |t::l,h=>by
  have a:=Ei i d b u v g l λx c=>h x (by simp[c])
  have f:=h t aI;rcases(by omega:d=0\/d=1\/d=2)with rfl|rfl|rfl
  .have e:t.2.getD i 0=0:=aa;simp only[Bd,br]at a⊢;rw[a,e];show t.1*(if 0=0 then g t.2 else 0)+_=t.1*(1*g t.2)+_;rw[ay rfl];grind
  .simp only[Bd,br]at a⊢;rw[<-a];rcases(by omega:t.2.getD i 0=0\/t.2.getD i 0=1)with e|e<;>rw[e]
   .show _=t.1*(1*g t.2)+_;simp;grind
   .show _=t.1*(u*g t.2)+_;simp;grind
  .simp only[Bd,br]at a⊢;rw[<-a];rcases(by omega:t.2.getD i 0=0\/t.2.getD i 0=1\/t.2.getD i 0=2)with e|e|e<;>rw[e]
   .show _=t.1*(1*g t.2)+_;simp;grind
   .show _=t.1*((u+v)/2*g t.2)+_;simp;grind
   .show _=t.1*(u*v*g t.2)+_;simp;grind
def iS(d:Nat)(lo hi:Rat)(x:Nat->Rat)(k:Nat):Rat:=Bd d (kE d k lo hi) (kF k lo hi) x
theorem V6(lo hi:Rat)(x:Nat->Rat):iS 0 lo hi x 0=x 0:=rfl
theorem V7(lo hi:Rat)(x:Nat->Rat):iS 1 lo hi x 0=x 0+lo*x 1/\iS 1 lo hi x 1=(hi-lo)*x 1+(x 0+lo*x 1):=by
 constructor
 .show x 0+x 1*lo=_;grind
 .show x 0+x 1*hi=_;grind
theorem V8(lo hi:Rat)(x:Nat->Rat):iS 2 lo hi x 0=x 0+lo*(x 1+lo*x 2)/\iS 2 lo hi x 1=((hi-lo)*(x 1+lo*x 2+lo*x 2))/2+(x 0+lo*(x 1+lo*x 2))/\
 iS 2 lo hi x 2=((hi-lo)*(hi-lo)*x 2+((hi-lo)*(x 1+lo*x 2+lo*x 2))/2)+(((hi-lo)*(x 1+lo*x 2+lo*x 2))/2+(x 0+lo*(x 1+lo*x 2))):=by
 refine⟨?_,?_,?_⟩
 .show x 0+x 1*((lo+lo)/2)+x 2*(lo*lo)=_;grind
 .show x 0+x 1*((lo+hi)/2)+x 2*(lo*hi)=_;grind
 .show x 0+x 1*((hi+hi)/2)+x 2*(hi*hi)=_;grind
def fR(T:Nat->Rat)(i:Nat)(q:Rat):Nat->Rat:=λj=>if j=i then q else T j
def gM(d:Nat)(c:Rat)(y:Nat->Rat):Nat->Nat->Rat
 |0=>y
 |m+1=>fR (gM d c y m) (d-1-m) (gM d c y m (d-1-m)+c*gM d c y m (d-1-m+1))
def iL(d:Nat)(c:Rat)(y:Nat->Rat):Nat->Nat->Rat
 |0=>y
 |i+1=>gM d c (iL d c y i) (d-i)
def mK(w:Rat):Nat->Rat
 |0=>w
 |m+1=>mK w m*w
def kS(w:Rat)(y:Nat->Rat):Nat->Nat->Rat
 |0=>y
 |m+1=>fR (kS w y m) (m+1) (mK w m*kS w y m (m+1))
def jv(d m:Nat):Rat:=if d=2/\m=1 then 2 else 1
def jW(d:Nat)(y:Nat->Rat):Nat->Nat->Rat
 |0=>y
 |m+1=>fR (jW d y m) m (jW d y m m/jv d m)
def jX(d:Nat)(y:Nat->Rat):Nat->Nat->Rat
 |0=>y
 |m+1=>fR (jX d y m) (d-m) (jX d y m (d-m)+jX d y m (d-m-1))
def mj(d:Nat)(y:Nat->Rat):Nat->Nat->Rat
 |0=>y
 |i+1=>jX d (mj d y i) (d-i)
def mY(d:Nat)(c w:Rat)(y:Nat->Rat):Nat->Rat:=kS w (iL d c y d) d
def qm(d:Nat)(c w:Rat)(y:Nat->Rat):Nat->Rat:=mj d (jW d (mY d c w y) (d+1)) d
theorem R6(d:Nat)(e:d<=2)(lo hi:Rat)(y:Nat->Rat)(k:Nat)(f:k<=d):qm d lo (hi-lo) y k=iS d lo hi y k:=by
 rcases(by omega:d=0\/d=1\/d=2)with rfl|rfl|rfl
 .obtain rfl:k=0:=aa;rw[V6];simp[qm,mY,mj,jW,kS,iL,fR,jv]
  grind
 .obtain⟨a,b⟩:=V7 lo hi y;rcases(by omega:k=0\/k=1)with rfl|rfl
  .rw[a];simp[qm,mY,mj,jX,jW,kS,iL,gM,mK,fR,jv];grind
  .rw[b];simp[qm,mY,mj,jX,jW,kS,iL,gM,mK,fR,jv];grind
 .obtain⟨a,b,c⟩:=V8 lo hi y;rcases(by omega:k=0\/k=1\/k=2)with rfl|rfl|rfl
  .rw[a];simp[qm,mY,mj,jX,jW,kS,iL,gM,mK,fR,jv];grind
  .rw[b];simp[qm,mY,mj,jX,jW,kS,iL,gM,mK,fR,jv];grind
  .rw[c];simp[qm,mY,mj,jX,jW,kS,iL,gM,mK,fR,jv];grind
structure yC (P:Rat->Prop) (d:Nat) (c w:Rat) (y:Nat->Rat):Prop where
 sh:∀i m,i<d->m<d-i->P c/\P (gM d c (iL d c y i) m (d-1-m))/\P (gM d c (iL d c y i) m (d-1-m+1))/\P (c*gM d c (iL d c y i) m (d-1-m+1))
 sc:∀m,m<d->P w/\P (mK w m)/\P (kS w (iL d c y d) m (m+1))
 avn:∀m,m<=d->P (jW d (mY d c w y) m m)
 tb:∀i m,i<d->m<d-i->P (jX d (mj d (jW d (mY d c w y) (d+1)) i) m (d-m))/\P (jX d (mj d (jW d (mY d c w y) (d+1)) i) m (d-m-1))
def bF.x5{V W:Nat}{q:Rat}(c:bF d W h)(b:bF a V q):bF (a*d) (V*W) (h*q):=by rw[Rat.mul_comm];exact b.mul c
def bF.z_{V K W:Nat}(c:K<=W)(b:bF a V h):bF (a*K) (V*W) h:=(b.up K).mono (eN V c)
theorem xJ(q:Rat):q/1=q:=b4
theorem bF.half{V:Nat}:bF a V h->bF (a*2) V (h/2)
 |⟨z,e,b⟩=>⟨z,by grind,b⟩
theorem aqt{V W:Nat}{w:Rat}{y:Nat->Rat}(hd:a<=2)(U:d≠0)(j:0<m)(g:m<=W)(N:d*m*m*2<2^240)(O:14*V*W*W<2^240)(u:m*m<2^240/\W*W<2^240)(v:∀k,k<=a->bF d V (y k))(B:bF m W h)(o:bF m W w):
 yC (aM 240) a h w y/\∀k,k<=a->bF (d*m*m*2) (14*V*W*W) (qm a h w y k):=by
 have X:=iP g g;have G:=eN V X;have v2:=eN (V*W) g;have Y:d*m*m*2≠0:=by have:=s_ (s_ (lC U) j) j;omega
 have c:∀ {q},bF (d*m*m*2) (14*V*W*W) q->aM 240 q:=λf=>f.rC Y N O
 have p:∀ {q},bF d (3*V) q->bF (d*m*m*2) (14*V*W*W) q:=λf=>by
  have:=(f.up (m*m*2)).mono (W:=14*V*W*W) b4
  grind
 have l:∀ {q},bF (d*m) (6*V*W) q->bF (d*m*m*2) (14*V*W*W) q:=λf=>by have:=(f.up (m*2)).mono (W:=14*V*W*W) b4;rwa[<-dx]at this
 have A:∀ {q},bF (d*m*m) (7*V*W*W) q->bF (d*m*m*2) (14*V*W*W) q:=λf=>(f.up 2).mono b4
 have l3:∀ {q},bF (d*m*m*2) (14*V*W*W) q->bF (d*m*m*2) (14*V*W*W) q:=id;have ar:aM 240 h:=by have:=B.z_ (K:=m) (W:=W) g;exact this.rC (by have:=s_ j j;omega) u.1 u.2
 have aw:aM 240 w:=by have:=o.z_ (K:=m) (W:=W) g;exact this.rC (by have:=s_ j j;omega) u.1 u.2
 have a0:aM 240 (w*w):=(o.mul o).rC (by have:=s_ j j;omega) u.1 u.2;rcases(by omega:a=0\/a=1\/a=2)with rfl|rfl|rfl
 .have n:=v 0 aa;have e:qm 0 h w y 0=y 0:=by simp[qm,mY,mj,jW,kS,iL,fR,jv];grind
  refine⟨⟨λi b f=>aa,λb f=>aa,λb f=>?_,λi b f=>aa⟩,λk K=>?_⟩
  .obtain rfl:b=0:=aa;exact c (p (n.mono aa))
  .obtain rfl:k=0:=aa;rw[e];exact p (n.mono aa)
 .have n:=v 0 aa;have x:=v 1 aa;have t:=B.x5 x;have r:=(n.z_ g).add t;have s:=o.x5 x;have z:=s.add r;have P:=c (p (n.mono aa));have Q:=c (p (x.mono aa));have R:=c (l (t.mono b4));have S:=c (l (r.mono b4));have T:=c (l (s.mono b4));refine⟨⟨λi b C D=>?_,λb f=>?_,λb f=>?_,λi b C D=>?_⟩,λk K=>?_⟩
  .obtain⟨rfl,rfl⟩:i=0/\b=0:=aa;simp[gM,iL,fR, *]
  .obtain rfl:b=0:=aa;simp[gM,iL,kS,mK,fR, *]
  .rcases(by omega:b=0\/b=1)with rfl|rfl<;>simp[mY,jW,gM,iL,kS,mK,fR,xJ,jv, *]
  .obtain⟨rfl,rfl⟩:i=0/\b=0:=aa;simp[mY,mj,jX,jW,gM,iL,kS,mK,fR,xJ,jv, *]
  .rcases(by omega:k=0\/k=1)with rfl|rfl
   .simp[qm,mY,mj,jX,jW,gM,iL,kS,mK,fR,xJ,jv];exact l (r.mono b4)
   .simp[qm,mY,mj,jX,jW,gM,iL,kS,mK,fR,xJ,jv];exact l (z.mono b4)
 .have n:=v 0 aa;have x:=v 1 aa;have H:=v 2 aa;have E:=B.x5 H;have F:=(x.z_ g).add E;have L:=B.x5 F;have r:=((n.z_ g).z_ g).add L;have G:=F.add E;have s:=o.x5 G;have I:=o.x5 (o.x5 H);rw[<-Rat.mul_assoc]at I;have z:=s.half.add (r.up 2);have J:=(I.up 2).add s.half;have M:=J.add z;have P:=c (p (n.mono aa));have Q:=c (p (x.mono aa));have R:=c (p (H.mono aa));have S:=c (l (E.mono b4));have T:=c (l (F.mono b4));have Z:=c (A (L.mono b4));have f6:=c (A (r.mono b4));have f7:=c (l (G.mono b4));have f8:=c (A (s.mono b4));have f9:=c (A (I.mono b4));have fa:=c (l3 (s.half.mono b4));have fb:=c (l3 (z.mono b4));have am:=c (l3 (J.mono b4));refine⟨⟨λi b C D=>?_,λb f=>?_,λb f=>?_,λi b C D=>?_⟩,λk K=>?_⟩
  .rcases(by omega:(i=0/\b=0)\/(i=0/\b=1)\/(i=1/\b=0))with⟨rfl,rfl⟩|⟨rfl,rfl⟩|⟨rfl,rfl⟩<;>simp[gM,iL,fR, *]
  .rcases(by omega:b=0\/b=1)with rfl|rfl<;>simp[gM,iL,kS,mK,fR, *]
  .rcases(by omega:b=0\/b=1\/b=2)with rfl|rfl|rfl<;>simp[mY,jW,gM,iL,kS,mK,fR,xJ,jv, *]
  .rcases(by omega:(i=0/\b=0)\/(i=0/\b=1)\/(i=1/\b=0))with⟨rfl,rfl⟩|⟨rfl,rfl⟩|⟨rfl,rfl⟩<;>simp[mY,mj,jX,jW,gM,iL,kS,mK,fR,xJ,jv, *]
  .rcases(by omega:k=0\/k=1\/k=2)with rfl|rfl|rfl<;>simp[qm,mY,mj,jX,jW,gM,iL,kS,mK,fR,xJ,jv]
   .exact A (r.mono b4)
   .exact l3 (z.mono b4)
   .exact l3 (M.mono b4)
def mG(a:av)(n m:Nat):av:=a.take (n-m)++aZ m 0
def amu{a:av}(h:af a=d)(b:m<=d):af (mG a d m)=d:=by unfold mG;simp;omega
def amt{a:av}(h:af a=d)(b:D<d-m):(mG a d m).getD D 0=a.getD D 0:=by unfold mG;rw[bT,s4 e7,List.getElem?_take_of_lt b,bT]
def Rr{a:av}(h:af a=d)(b:d=m+D+1)(x:Nat):(mG a d m).set D x=a.take D++x::aZ m 0:=by unfold mG;rw[(aa:d-m=D+1),List.set_append_left _ _ e7,lT aa,List.set_append_right _ _ e7];simp[(aa:min D (af a)=D)]
def amw{a:av}(h:af a=d)(b:d=m+D+1):(mG a d m).set D 0=mG a d (m+1):=by rw[Rr h b];unfold mG;rw[(aa:d-(m+1)=D)];rfl
def amv{a:av}(r:jn g a)(o:g.length=m)(t:m=D+O+1)(q:∀j,O<j->j<m->a.getD j 0=g.getD j 0)(v:a.getD O 0≠g.getD O 0):
 jn g ((mG a m D).set O (a.getD O 0+1))/\dR g ((mG a m D).set O (a.getD O 0+1))=dR g a+1:=by
 obtain⟨n,b⟩:=r;have p:af a=m:=n.trans o;rw[Rr p t];have h:g=g.take O++g.getD O 0::g.drop (O+1):=by rw[bT,c4 aa];exact(p6 O g).symm.trans (by rw[mQ aa];rfl)
 have l:a.drop (O+1)=g.drop (O+1):=by
  refine oC λi=>?_
  rw[yD,yD];by_cases hi:O+1+i<m
  .have:=q (O+1+i) aa hi;rw[bT,bT,c4 aa,c4 aa]at this;rw[c4 aa,c4 aa];exact congrArg some this
  .rw[lA aa,lA aa]
 have k:a=a.take O++a.getD O 0::g.drop (O+1):=by rw[bT,c4 aa,<-l];exact(p6 O a).symm.trans (by rw[mQ aa];rfl)
 have u:D=af (g.drop (O+1)):=by rw[lB];omega
 refine⟨⟨by simp;omega,λi=>?_⟩,?_⟩
 .have:=b i;have w:=b O;by_cases e:i<O
  .rw[bT,s4 e7,List.getElem?_take_of_lt e,<-bT];exact this
  .rw[bT,vI e7,e8,(aa:min O (af a)=O)];by_cases f:i=O
   .subst f;rw[nQ,List.getElem?_cons_zero];show a.getD i 0+1<=_;omega
   .obtain⟨j,s⟩:∃j,i-O=j+1:=⟨i-O-1,aa⟩;rw[s,List.getElem?_cons_succ];by_cases c:j<D
    .rw[yE,ay c];exact cj _
    .rw[yE,ao c];exact cj _
 .have d:=asc (l:=g.take O) (a:=a.take O) (m:=g.drop (O+1)) (d:=g.getD O 0) (x:=a.getD O 0) e7;rw[<-h,<-u,<-k]at d;exact d
def amj{a:av}(b:jn g a)(h:∀j,j<g.length->a.getD j 0=g.getD j 0):a=g:=by
 refine oC λi=>?_
 by_cases hi:i<g.length
 .have:=h i hi;rw[bT,bT,c4 (by rw[b.1];exact hi),c4 hi]at this;rw[c4 (by rw[b.1];exact hi),c4 hi];exact congrArg some this
 .rw[lA (by rw[b.1];omega),lA aa]
def jM(s d j:Nat):Nat:=j/s%(d+1)
def mF(s d j:Nat):Nat:=j-jM s d j*s
def IG(s d j:Nat):jM s d j<=d:=Nat.le_of_lt_succ (fD (j/s) (mA d))
def amy(s d j:Nat):jM s d j*s<=j:=c5 (ei s (Nat.mod_le _ _)) (yH j s)
def QT(e:0<a)(b:jM a d m=0)(f:D<=d):jM a d (m+D*a)=D/\mF a d (m+D*a)=m:=by
 have c:jM a d (m+D*a)=D:=by unfold jM at b⊢;rw[Nat.add_mul_div_right _ _ e,Nat.add_mod,b,eW,Nat.mod_mod,jR aa]
 exact⟨c,by unfold mF;rw[c];omega⟩
def aky(h:mF a d m=D):m=D+jM a d m*a:=by have:=amy a d m;unfold mF at h;omega
def akx(e:0<a):jM a d (mF a d m)=0:=by
 have c:=kj (m/a) (d+1);have b:mF a d m/a=(d+1)*(m/a/(d+1)):=by unfold mF;rw[dy,Nat.sub_mul_div];show m/a-m/a%(d+1)=_;omega
 unfold jM at*;rw[b,Nat.mul_mod_right]
def akz(s d j:Nat):mF s d j<=j:=Nat.sub_le _ _
def o_(s d:Nat)(lo hi:Rat)(T:Nat->Rat)(j:Nat):Rat:=iS d lo hi (λk=>T (mF s d j+k*s)) (jM s d j)
def pT(s d:Nat)(lo hi:Rat)(T:Nat->Rat)(n:Nat):Nat->Rat:=λj=>if mF s d j<n then o_ s d lo hi T j else T j
def awh(s d:Nat)(lo hi:Rat)(T:Nat->Rat):pT s d lo hi T 0=T:=by funext j;exact ao (nP _)
variable{L:Nat->Rat}
def awg{lo hi:Rat}(c:0<a)(h:jM a d m≠0):pT a d lo hi L (m+1)=pT a d lo hi L m:=by
 funext j;have:mF a d j≠m:=λe=>h (by rw[<-e];exact akx c)
 show(if mF a d j<m+1 then _ else _)=if mF a d j<m then _ else _
 by_cases b:mF a d j<m
 .rw[ay b,ay aa]
 .rw[ao b,ao aa]
def Gc(b:a<=2){lo hi:Rat}{y:Nat->Rat}(h:∀d,d<=a->L d=y d):iS a lo hi L d=iS a lo hi y d:=by
 unfold iS;rcases(by omega:a=0\/a=1\/a=2)with rfl|rfl|rfl
 .exact h 0 (aJ _)
 .show L 0+L 1*_=y 0+y 1*_;rw[h 0 aa,h 1 aa]
 .show L 0+L 1*_+L 2*_=y 0+y 1*_+y 2*_;rw[h 0 aa,h 1 aa,h 2 aa]
def awe{lo hi:Rat}{T:Nat->Rat}(g:0<a)(e:jM a d m=0)(f:D<=d):pT a d lo hi T m (m+D*a)=T (m+D*a)/\pT a d lo hi T (m+1) (m+D*a)=iS d lo hi (λD=>T (m+D*a)) D:=by obtain⟨b,c⟩:=QT g e f;refine⟨ao aa,(ay aa).trans ?_⟩;unfold o_;rw[b,c]
def awf{lo hi:Rat}(h:∀k,k<=d->D≠m+k*a):pT a d lo hi L (m+1) D=pT a d lo hi L m D:=by
 have:mF a d D≠m:=λe=>h _ (IG a d D) (aky e)
 show(if mF a d D<m+1 then _ else _)=if mF a d D<m then _ else _
 by_cases b:mF a d D<m
 .rw[ay b,ay aa]
 .rw[ao b,ao aa]
def awd{lo hi:Rat}(b:D<m):pT a d lo hi L m D=o_ a d lo hi L D:=ay (fu (akz a d D) b)
def qs(n:Nat)(D:Nat->Nat)(U V:Nat->Rat)(e:av):Rat:=fC (D 0) (e.getD 0 0) (U 0) (V 0)*(if n=1 then 1 else fC (D 1) (e.getD 1 0) (U 1) (V 1))
def asj{D:Nat->Nat}(o:d=1\/d=2)(g:∀i,D i<=2)(p:List (Rat×av))(l:∀t∈p,∀i,t.2.getD i 0<=D i){lo hi:Nat->Rat}
 (H:∀a:Nat->Nat,(∀i,a i<=D i)->h<=br (qs d D (λi=>kE (D i) (a i) (lo i) (hi i)) (λi=>kF (a i) (lo i) (hi i))) p) {U V:Nat->Rat} (j:∀i,lo i<=U i/\U i<=hi i) (k:∀i,lo i<=V i/\V i<=hi i):h<=br (qs d D U V) p:=by
 have m:∀b,b<=D 1->h<=br (λe=>fC (D 0) (e.getD 0 0) (U 0) (V 0)*(if d=1 then 1 else fC (D 1) (e.getD 1 0) (kE (D 1) b (lo 1) (hi 1)) (kF b (lo 1) (hi 1)))) p:=λb c=>
  SZ 0 (D 0) (g 0) (λe=>if d=1 then 1 else fC (D 1) (e.getD 1 0) (kE (D 1) b (lo 1) (hi 1)) (kF b (lo 1) (hi 1))) p (λt f=>l t f 0)
   (λa n=>H (λi=>if i=0 then a else if i=1 then b else 0) λi=>by
     show(if i=0 then a else if i=1 then b else 0)<=D i;split
     .rename_i e;subst e;exact n
     .split
      .rename_i e;subst e;exact c
      .exact cj _) (U 0) (V 0) (j 0) (k 0)
 rcases o with rfl|rfl
 .exact m 0 (cj _)
 .have q:=SZ 1 (D 1) (g 1) (λe=>fC (D 0) (e.getD 0 0) (U 0) (V 0)) p (λt f=>l t f 1) (m:=h) (lo:=lo 1) (hi:=hi 1)
   (λb c=>by rw[tF (g:=λe=>fC (D 0) (e.getD 0 0) (U 0) (V 0)*fC (D 1) (e.getD 1 0) (kE (D 1) b (lo 1) (hi 1)) (kF b (lo 1) (hi 1))) (λt _=>Rat.mul_comm _ _)];exact m b c) (U 1) (V 1) (j 1) (k 1)
  rwa[tF (g:=qs 2 D U V) (λt _=>Rat.mul_comm _ _)]at q
theorem ar8{a:Nat}{lo hi:Rat}(h:lo<=hi):lo<=kE d a lo hi/\kE d a lo hi<=hi:=by
 unfold kE;split
 .exact⟨h,qS⟩
 .exact⟨qS,h⟩
theorem ar9{a:Nat}{lo hi:Rat}(h:lo<=hi):lo<=kF a lo hi/\kF a lo hi<=hi:=by
 unfold kF;split
 .exact⟨h,qS⟩
 .exact⟨qS,h⟩
def jP(D:av)(p:List (Rat×av))(T:Nat->Rat):Nat->Rat:=p.foldl (λT t=>fR T (dR D t.2) t.1) T
def SW:∀ {D a b:av},jn D a->jn D b->dR D a=dR D b->a=b
 |[],a,b,c,e,_=>by rw[pn c.1,pn e.1]
 |_::_,[],_,c,_,_=>by have:=c.1;simp at this
 |_::_,_::_,[],_,e,_=>by have:=e.1;simp at this
 |d::l,x::a,y::b,c,e,h=>by
  have f:jn l a:=⟨Nat.succ.inj c.1,λi=>c.2 (i+1)⟩;have g:jn l b:=⟨Nat.succ.inj e.1,λi=>e.2 (i+1)⟩;have j:=vh l a f;have k:=vh l b g;change x*pr l+dR l a=y*pr l+dR l b at h;have m:(x*pr l+dR l a)/pr l=(y*pr l+dR l b)/pr l:=by rw[h]
  rw[i_,Nat.add_mul_div_right _ _ aa,mw j,i_ (y*pr l),Nat.add_mul_div_right _ _ aa,mw k]at m;have n:x=y:=aa;subst n;rw[SW f g aa]
theorem Ui{a:av}(c:jn g a):∀(p:List (Rat×av)) (T:Nat->Rat),p.Pairwise (λa b=>a.2≠b.2)->(∀t∈p,jn g t.2)->jP g p T (dR g a)=br (λe=>if e=a then 1 else 0) p+if a∈p.map (·.2)then 0 else T (dR g a)
 |[],T,_,_=>by show T (dR g a)=0+if a∈[]then 0 else T (dR g a);grind
 |t::l,T,j,hi=>by
  obtain⟨m,f⟩:=uz.1 j;have k:=Ui c l (fR T (dR g t.2) t.1) f λu d=>hi u (pq _ d)
  show jP g l (fR T (dR g t.2) t.1) (dR g a)=t.1*(if t.2=a then 1 else 0)+br _ l+if a∈t.2::l.map (·.2)then 0 else T (dR g a)
  rw[k];by_cases e:t.2=a
  .have i:a∉l.map (·.2):=λh=>by grind
   rw[ao i,ay e,ay (by rw[e];exact uy ..)];unfold fR;rw[ay (by rw[e])]
   grind
  .rw[ao e];have d:fR T (dR g t.2) t.1 (dR g a)=T (dR g a):=ao λh=>e (SW c (hi t (uy ..)) h).symm
   grind
theorem Uj{D a:av}(c:jn D a)(p:List (Rat×av))(d:p.Pairwise (λa b=>a.2≠b.2))(hi:∀t∈p,jn D t.2):jP D p (λ_=>0) (dR D a)=br (λe=>if e=a then 1 else 0) p:=by grind [Ui,Rat.add_zero]
def Uh{P:Rat->Prop}:∀(p:List (Rat×av)) (T:Nat->Rat),(∀j,P (T j))->(∀t∈p,P t.1)->∀j,P (jP g p T j)
 |[],_,h,_=>h
 |t::l,T,h,a=>Uh l _ (λj=>by show P (if j=_ then _ else _);split;exact a t aI;exact h j) λu b=>a u (by simp[b])
def KD{lo hi:Rat}(g:0<a)(e:jM a d m=0)(f:D<=d):o_ a d lo hi L (m+D*a)=iS d lo hi (λh=>L (m+h*a)) D:=by obtain⟨b,c⟩:=QT g e f;unfold o_;rw[b,c]
def rq(S D:av)(b:List (Rat×Rat))(T:Nat->Rat):Nat->Nat->Rat
 |0=>T
 |k+1=>o_ (S.getD k 0) (D.getD k 0) (b.getD k (0,0)).1 (b.getD k (0,0)).2 (rq S D b T k)
def aqR{a:Nat}(f:d<=2)(g:a<=d)(q:Rat×Rat)(p:List (Rat×av))(l:p.Pairwise (λa b=>a.2≠b.2))(hi:∀t∈p,jn [d] t.2):
 rq [1] [d] [q] (jP [d] p λ_=>0) 1 (dR [d] [a])=br (λe=>fC d (e.getD 0 0) (kE d a q.1 q.2) (kF a q.1 q.2)) p:=by
 show o_ 1 d q.1 q.2 (jP [d] p λ_=>0) (a*1+0)=_;rw[(aa:a*1+0=0+a*1),KD ai (by unfold jM;rw[Nat.zero_div,Nat.zero_mod]) g];rw[Gc f (y:=λk=>br (λe=>if e.getD 0 0=k then 1 else 0) p) λk j=>by
  have h:=Uj (D:=[d]) (a:=[k]) ⟨rfl,λi=>by cases i;exact j;exact cj _⟩ p l hi;change jP [d] p (λ_=>0) (k*1+0)=_ at h;rw[(aa:0+k*1=k*1+0),h];refine tF λt c=>?_
  match t.2,(hi t c).1 with
  |[x],_=>by_cases e:x=k<;>simp[e]]
 unfold iS;rw[Ei 0 d f _ _ (λ_=>1) p λt c=>(hi t c).2 0];exact tF λt _=>uF _
theorem aqS(n:d<=2)(o:m<=2)(u:D<=d)(v:O<=m)(c g:Rat×Rat)(p:List (Rat×av))(s:p.Pairwise (λa b=>a.2≠b.2))(hi:∀t∈p,jn [d,m] t.2):
 rq [(m+1)*1,1] [d,m] [c,g] (jP [d,m] p λ_=>0) 2 (dR [d,m] [D,O])=br (λe=>fC m (e.getD 1 0) (kE m O g.1 g.2) (kF O g.1 g.2)*fC d (e.getD 0 0) (kE d D c.1 c.2) (kF D c.1 c.2)) p:=by
 have r:∀k f,k<=m->f<=d->jn [d,m] [f,k]:=λk f l q=>⟨rfl,λi=>by grind⟩
 have w:∀k,k<=m->o_ ((m+1)*1) d c.1 c.2 (jP [d,m] p λ_=>0) (D*((m+1)*1)+k)=br (λe=>if e.getD 1 0=k then fC d (e.getD 0 0) (kE d D c.1 c.2) (kF D c.1 c.2)else 0) p:=λk l=>by
  rw[i_ (D*_) k,KD aa (by unfold jM;rw[mw aa,Nat.zero_mod]) u];rw[Gc n (y:=λf=>br (λe=>if e.getD 0 0=f then(if e.getD 1 0=k then 1 else 0)else 0) p) λf q=>by
   have h:=Uj (r k f l q) p s hi;change jP [d,m] p (λ_=>0) (f*((m+1)*1)+(k*1+0))=_ at h;rw[(aa:k+f*((m+1)*1)=f*((m+1)*1)+(k*1+0)),h];refine tF λt j=>?_
   match t.2,(hi t j).1 with
   |[x,y],_=>grind]
  unfold iS;rw[Ei 0 d n _ _ (λe=>if e.getD 1 0=k then 1 else 0) p λt j=>(hi t j).2 0]
  grind
 show o_ 1 m g.1 g.2 (o_ ((m+1)*1) d c.1 c.2 (jP [d,m] p λ_=>0)) (D*((m+1)*1)+(O*1+0))=_;rw[show D*((m+1)*1)+(O*1+0)=D*((m+1)*1)+O*1 from rfl,KD ai (by unfold jM;rw[pA,eD,Nat.mul_mod_left]) v];rw[Gc o (y:=λk=>br (λe=>if e.getD 1 0=k then fC d (e.getD 0 0) (kE d D c.1 c.2) (kF D c.1 c.2)else 0) p) λk l=>by grind]
 unfold iS;rw[Ei 1 m o _ _ (λe=>fC d (e.getD 0 0) (kE d D c.1 c.2) (kF D c.1 c.2)) p λt j=>(hi t j).2 1]
end Go.aD
namespace Go.W
def val:av->Nat
 |[]=>0
 |d::l=>d+18446744073709551616*val l
def aG(l:av):Prop:=∀d∈l,d<18446744073709551616
def aY(l:av):Prop:=l.getLast?≠some 0
variable{a:Nat}{g:av}
def aG.cons(h:aG (a::g)):a<18446744073709551616/\aG g:=⟨h a aI,λx b=>h x (by simp[b])⟩
def aG.mk(h:a<18446744073709551616)(b:aG g):aG (a::g):=λx hx=>by
 rcases jr.1 hx with rfl|hx
 .exact h
 .exact b x hx
theorem aG.nil:aG []:=λ_ h=>by cases h
def aG.take(h:aG g)(n:Nat):aG (g.take n):=λx a=>h x (oD a)
def aG.drop(h:aG g)(n:Nat):aG (g.drop n):=λx a=>h x (List.mem_of_mem_drop a)
def aG.app{m:av}(h:aG g)(a:aG m):aG (g++m):=λx hx=>by
 rcases ki.1 hx with hx|hx
 .exact h x hx
 .exact a x hx
def aG.getD(h:aG g)(i:Nat):g.getD i 0<18446744073709551616:=by
 rw[bT];cases e:g[i]? with
 |none=>simp
 |some x=>exact h x (fL e)
theorem iz:∀ {l:av},aG l->val l<18446744073709551616^(af l)
 |[],_=>by simp[val]
 |d::l,h=>by have a:=iz h.cons.2;have b:=h.cons.1;simp only[val,dZ,dX];omega
theorem gi:∀(l m:av),val (l++m)=val l+18446744073709551616^(af l)*val m
 |[],m=>by simp[val]
 |d::l,m=>by simp only[gv,val,dZ,dX,gi l m,dL];rw[dy (18446744073709551616^(af l)) 18446744073709551616,dx,ng]
def Kc(h:a<af g):g=g.take a++g.getD a 0::g.drop (a+1):=by rw[bT,c4 h];simp
def sV{l:av}{i:Nat}(h:i<af l):val l=val (l.take i)+18446744073709551616^i*(l.getD i 0+18446744073709551616*val (l.drop (i+1))):=by have e:=congrArg val (Kc h);rw[gi,jq (ja h)]at e;exact e
variable{d:Nat}
def Bh{a:av}(c:aG a)(hi:d<af a)(hi':d<af g)(h:a.drop (d+1)=g.drop (d+1))(f:a.getD d 0<g.getD d 0):val a<val g:=by
 rw[sV hi,sV hi',h];have b:=iz (c.take d);rw[jq (ja hi)]at b;have e:18446744073709551616^d*(a.getD d 0+18446744073709551616*val (g.drop (d+1)))+18446744073709551616^d<=18446744073709551616^d*(g.getD d 0+18446744073709551616*val (g.drop (d+1))):=by rw[<-Nat.mul_succ];exact eN _ aa
 omega
def aY.pos(h:aY g)(a:g≠[]):18446744073709551616^(af g-1)<=val g:=by
 have hl:0<af g:=List.length_pos_iff.2 a;have hi:af g-1<af g:=aa;rw[sV hi];have:g.getD (af g-1) 0≠0:=by intro e;refine h ?_;rw[List.getLast?_eq_getElem?,c4 hi];rw[bT,c4 hi]at e;exact congrArg some e
 have b:18446744073709551616^(af g-1)*1<=18446744073709551616^(af g-1)*(g.getD (af g-1) 0+18446744073709551616*val (g.drop (af g-1+1))):=eN _ aa;omega
def ve{a:av}(b:aG a)(c:aY g)(h:af a<af g):val a<val g:=by have d:=iz b;have f:=c.pos (by intro e;rw[e]at h;exact absurd h (nP _));have i:18446744073709551616^(af a)<=18446744073709551616^(af g-1):=iI aa aa;omega
theorem val_inj:∀ {a b:av},aG a->aG b->af a=af b->val a=val b->a=b
 |[],[],_,_,_,_=>rfl
 |x::a,y::b,c,d,hl,h=>by have g:=c.cons.1;have i:=d.cons.1;simp only[val]at h;have e:x=y:=aa;have f:val a=val b:=aa;rw[e,val_inj c.cons.2 d.cons.2 (by simpa using hl) f]
def canon{a:av}(b:aG a)(c:aG g)(d:aY a)(e:aY g)(h:val a=val g):a=g:=by
 rcases Nat.lt_trichotomy (af a) (af g)with h1|h1|h1
 .have:=ve b e h1;omega
 .exact val_inj b c h1 h
 .have:=ve c d h1;omega
def trim:av->av
 |[]=>[]
 |d::l=>if trim l=[]/\d=0 then []else d::trim l
def z6(l:av):trim (l++[0])=trim l:=by
 induction l with
 |nil=>rfl
 |cons d l a=>simp only[gv,trim,a]
theorem z4(l:av)(d:Nat)(h:d≠0):trim (l++[d])=l++[d]:=by
 induction l with
 |nil=>simp[trim,h]
 |cons e l a=>simp only[gv,trim,a];simp
theorem Ac:∀l,val (trim l)=val l
 |[]=>rfl
 |d::l=>by
  have a:=Ac l;unfold trim;split
  .rename_i h;rw[h.1]at a;simp only[val]at a⊢;omega
  .simp only[val,a]
theorem z5:∀ {l:av},aG l->aG (trim l)
 |[],h=>h
 |d::l,h=>by
  unfold trim;split
  .exact aG.nil
  .exact .mk h.cons.1 (z5 h.cons.2)
theorem Ch:∀l,aY (trim l)
 |[]=>by simp[trim,aY]
 |d::l=>by
  have a:=Ch l;unfold trim;split
  .simp[aY]
  .rename_i h;unfold aY at*;cases e:trim l with
   |nil=>rw[e]at h;simp at h;simpa using h
   |cons x m=>rw[e]at a;simpa using a
def aU(n:Nat):av:=if h:n=0 then []else n%18446744073709551616::aU (n/18446744073709551616)
termination_by n
decreasing_by omega
theorem kz:aU 0=[]:=by unfold aU;simp
theorem qf(h:a≠0):aU a=a%18446744073709551616::aU (a/18446744073709551616):=by rw[aU];simp[h]
def gU(n:Nat):val (aU n)=n:=by
 induction n using j3 with
 |ind n a=>
  by_cases h:n=0
  .subst h;rw[kz];rfl
  .rw[qf h];simp only[val,a (n/18446744073709551616) aa];omega
def iX(n:Nat):aG (aU n):=by
 induction n using j3 with
 |ind n a=>
  by_cases h:n=0
  .subst h;rw[kz];exact aG.nil
  .rw[qf h];exact .mk aa (a _ aa)
def rJ(n:Nat):aY (aU n):=by
 induction n using j3 with
 |ind n b=>
  by_cases h:n=0
  .subst h;rw[kz];simp[aY]
  .rw[qf h];have:=b (n/18446744073709551616) aa;unfold aY at*;cases e:aU (n/18446744073709551616)with
   |nil=>
    by_cases a:n/18446744073709551616=0
    .have:n%18446744073709551616≠0:=aa;simpa using this
    .rw[qf a]at e;cases e
   |cons x m=>rw[e]at this;simpa using this
theorem Ds(h:aG g)(t:aY g):aU (val g)=g:=canon (iX _) h (rJ _) t (gU _)
def sR(h:aG g):trim g=aU (val g):=by rw[<-Ac g];exact(Ds (z5 h) (Ch g)).symm
variable{m:Nat}
def AT(h:d<18446744073709551616^m):af (aU d)<=m:=by
 by_cases e:aU d=[]
 .rw[e];exact cj _
 .have b:=(rJ d).pos e;rw[gU]at b;have c:af (aU d)-1<m:=(Nat.pow_lt_pow_iff_right (a:=18446744073709551616) aa).1 aa;omega
section
variable {q top u2 nJ v1 v2 pe W U V:Nat}
def A_(c:V=(v1*18446744073709551616+v2)*W+pe)(b:U=(top*18446744073709551616+u2)*W+nJ)(g:nJ<W)(f:q*V<=U):q*(v1*18446744073709551616+v2)<=top*18446744073709551616+u2:=by
 obtain⟨X,d⟩:∃X,X=v1*18446744073709551616+v2:=⟨_,rfl⟩;obtain⟨T,hT⟩:∃T,T=top*18446744073709551616+u2:=⟨_,rfl⟩;rw[<-d]at c⊢;rw[<-hT]at b⊢;have e:q*X*W<=q*V:=by rw[dx];exact eN _ aa
 have a:q*X*W<(T+1)*W:=by rw[fT,kn];omega
 have:=vP a;omega
def D9(b:V=(v1*18446744073709551616+v2)*W+pe)(a:U=(top*18446744073709551616+u2)*W+nJ)(d:nJ<W)(f:u2<18446744073709551616)(e:0<v1)(c:q*V<=U):q<=top/v1:=by have h:=A_ b a d c;rw[dL,<-dx]at h;rw[vO e];omega
def D_{h r:Nat}(c:V=(v1*18446744073709551616+v2)*W+pe)(b:U=(top*18446744073709551616+u2)*W+nJ)(f:nJ<W)(d:q*V<=U)(e:top=h*v1+r)(j:r*18446744073709551616+u2<h*v2):q<h:=by
 rcases rY q h with h1|h1
 .exact h1
 .have g:=A_ c b f d;have a:h*(v1*18446744073709551616+v2)<=q*(v1*18446744073709551616+v2):=ei _ h1;rw[dL,<-dx]at a;have i:top*18446744073709551616=h*v1*18446744073709551616+r*18446744073709551616:=by rw[e,fT]
  omega
def Ea(e:V=(v1*18446744073709551616+v2)*W+pe)(c:U=(top*18446744073709551616+u2)*W+nJ)(l:pe<W)(p:0<v1)(k:top=a*v1+d)(hh:a<18446744073709551616)(o:a*v2<=d*18446744073709551616+u2):(a-1)*V<=U:=by
 cases a with
 |zero=>simp
 |succ g=>
  have m:top*18446744073709551616=(g+1)*v1*18446744073709551616+d*18446744073709551616:=by rw[k,fT]
  have b:(g+1)*(v1*18446744073709551616+v2)<=top*18446744073709551616+u2:=by rw[dL,<-dx];omega
  have j:18446744073709551616<=v1*18446744073709551616+v2:=aa;obtain⟨X,h⟩:∃X,X=v1*18446744073709551616+v2:=⟨_,rfl⟩;obtain⟨T,f⟩:∃T,T=top*18446744073709551616+u2:=⟨_,rfl⟩;rw[<-h]at e b j;rw[<-f]at c b;have i:(g+1)*X*W<=T*W:=ei _ b;rw[fT g 1 X,kn,fT]at i;have n:g*pe<=X*W:=iP aa (ja l);show g*V<=U;rw[e,c,dL,<-dx];omega
end
def ud:∀ {l:av}{k:Nat},(∀p,k<=p->l.getD p 0=0)->val l=val (l.take k)
 |[],_,_=>aI
 |d::l,0,h=>by have b:=h 0 (aJ _);have a:=ud (l:=l) (k:=0) (λp _=>by simpa using h (p+1) (cj _));simp at b a;simp[val,b,a]
 |d::l,k+1,h=>by have a:=ud (l:=l) (k:=k) (λp c=>by simpa using h (p+1) aa);simp only[List.take_succ_cons,val,a]
theorem rL(l:av)(j:Nat)(h:j<=af l):val l=val (l.take j)+18446744073709551616^j*val (l.drop j):=by have:=congrArg val (p6 j l);rw[gi,jq h]at this;exact this.symm
theorem wh(l:av)(j p:Nat):(l.drop j).getD p 0=l.getD (j+p) 0:=by simp[bT,yD]
def wY{l:av}{i:Nat}(h:i<af l):val (l.drop i)=l.getD i 0+18446744073709551616*val (l.drop (i+1)):=by rw[mQ h,bT,c4 h];rfl
def x1{l:av}{n:Nat}(e:2<=n)(f:n<=af l)(d:∀p,n<=p->l.getD p 0=0):val l=(l.getD (n-1) 0*18446744073709551616+l.getD (n-2) 0)*18446744073709551616^(n-2)+val (l.take (n-2)):=by
 have c:val (l.drop n)=0:=by have:=ud (l:=l.drop n) (k:=0) (λp _=>by rw[wh];exact d _ aa);simpa [val]using this
 have a:=sV (l:=l) (i:=n-2) aa;have b:=wY (l:=l) (i:=n-1) aa;rw[(aa:n-1+1=n)]at b;rw[(aa:n-2+1=n-1)]at a;rw[a,b,c,gj,dG,dy _ (18446744073709551616^(n-2)),i_ (val _),i_ (l.getD (n-2) 0),dy 18446744073709551616]
section
variable {T U V h k cu P Q KK U0 Fz awR q:Nat}
end
def shr(s:Nat):av->av
 |[]=>[]
 |[d]=>[d/2^s]
 |d::e::l=>(d/2^s+(e%2^s)*2^(64-s))::shr s (e::l)
def vo(s:Nat):∀l,af (shr s l)=af l
 |[]=>rfl
 |[_]=>rfl
 |d::e::l=>by simp[shr,vo s (e::l)]
def Ci(b:a<=63):(18446744073709551616:Nat)=2^a*2^(64-a):=by rw[<-iB,(aa:a+(64-a)=64)]
def zV(b:a<=63):∀l,val (shr a l)=val l/2^a
 |[]=>by simp[shr,val]
 |[d]=>by simp[shr,val]
 |d::e::l=>by
  have i:=zV b (e::l);have h:0<2^a:=gE aa;have f:val (e::l)%2^a=e%2^a:=by show(e+18446744073709551616*val l)%2^a=e%2^a;rw[Ci b,dx,Nat.add_mul_mod_self_left]
  have g:val (d::e::l)/2^a=d/2^a+2^(64-a)*val (e::l):=by show(d+18446744073709551616*val (e::l))/2^a=_;rw[Ci b,dx,Nat.add_mul_div_left _ _ h]
  have c:=kj (val (e::l)) (2^a);rw[f]at c;rw[g];show d/2^a+(e%2^a)*2^(64-a)+18446744073709551616*val (shr a (e::l))=_;rw[i,Ci b,xk (2^a),dy (2^a*(val (e::l)/2^a)),dy (e%2^a),ng,<-dL,i_ (e%2^a),c]
def yg(b:a<=63):∀ {l},aG l->aG (shr a l)
 |[],h=>h
 |[d],h=>by have:=h.cons.1;exact .mk (fu (js _ _) this) aG.nil
 |d::e::l,h=>by
  refine .mk ?_ (yg b h.cons.2);have c:0<2^a:=gE aa;have g:=h.cons.1;have i:d/2^a<2^(64-a):=by rw[s8 c,dy,<-Ci b];exact g
  have f:(e%2^a+1)*2^(64-a)<=2^a*2^(64-a):=ei _ (fD _ c);rw[<-Ci b,fT,kn]at f;omega
def zU{s:Nat}:∀ {l:av}{i:Nat},i<af l->(shr s l).getD i 0=l.getD i 0/2^s+(l.getD (i+1) 0%2^s)*2^(64-s)
 |[],_,h=>absurd h (nP _)
 |[d],0,_=>by simp[shr]
 |[_],_+1,h=>by simp at h
 |d::e::l,0,_=>by simp[shr]
 |d::e::l,i+1,h=>by have a:=zU (s:=s) (l:=e::l) (i:=i) (by simpa using h);simpa [shr]using a
end Go.W
namespace Go.Proofs.YtddhncjmaahodaaGreatDoor
section
open Go.ax
attribute [local irreducible] rd kc ex bD bB re rg mv bJ pick alloc box bi bs ba be fd bG st fa bz bY cv cn cw cT cS ms cr cK cJ cB mx mn cA ap cF bQ cC cD bU cE ext cO neg Go.ax.not cL cI cN cM cR cP cG cQ cy cx u8
def awS(f:Nat):Option (au->Option bh):=Bool.casesOn (motive:=λ_=>Option (au->Option bh)) (bt f 312) (Bool.casesOn (motive:=λ_=>Option (au->Option bh)) (bt f 357) none (some cy)) (some cx)
def AB(a:Option (Nat->aS))(b:Option (Code×Code))(f:Option Code):aS×List aS:=Xd awS qU a b (lg .ret f) true []
def k_(n:Nat):Option Code:=aq (nN.get none n) λf=>f.body
def pS(n:Nat):aS:=(AB none none (k_ n)).1
def pc(n i:Nat):aS:=tO .skip (AB none none (k_ n)).2 i
def ED(n:Nat):Code:=(lg (.ret,.ret) (aq (k_ n) Tv)).1
def rD(n:Nat):Code:=(lg (.ret,.ret) (aq (k_ n) Tv)).2
def rE(f:Func):List iC:=lmap (λr=>match r with|.tmp t=>iC.tmp t|.cell a t=>.cell a (lg false (qU.isAgg t)) (qy qU t)) f.results.toList
attribute [irreducible] pS pc ED rD
variable{J:aS}
def aV(n:Nat)(f:Func){a:aS}(_:(AB (some (pc n)) (some (ED n,rD n)) f.body).1=a:=by conv=>lhs;reduce)(_:a=J:=by(try simp only[Int.reduceOfNat,Int.reduceNegSucc,Kx]);rfl)(h:pS n=J:=by kernel_rfl):pS n=J:=h
def ak(n:Nat)(f:Func)(i:Nat){a:aS}(_:tO .skip (AB (some (pc n)) (some (ED n,rD n)) f.body).2 i=a:=by conv=>lhs;reduce)(_:a=J:=by(try simp only[Int.reduceOfNat,Int.reduceNegSucc,Kx]);rfl)(h:pc n i=J:=by kernel_rfl):pc n i=J:=h
def jm(f:Func){a:List iC}(h:rE f=a:=by conv=>lhs;reduce):rE f=a:=h
def a_(fn:Func)(f:Nat){l:List iC}(_:rE fn=l:=by conv=>lhs;reduce)(a:nN.get aN f=some fn:=by kernel_rfl)(b:tw 5 nN qU fn=some (pS f,l):=by kernel_rfl):Al fn f (pS f) l:=⟨a,b⟩
end
section
open Go.ax Go.Proofs.Tryz
set_option maxRecDepth 100000
attribute [local irreducible] rd kc ex bD bB re rg mv bJ pick alloc box bi bs ba be fd bG st fa bz bY cv cn cw cT cS ms cr cK cJ cB mx mn cA ap cF bQ cC cD bU cE ext cO neg Go.ax.not cL cI cN cM cR cP cG cQ cy cx u8
def aii:=ak 82 f82 0
def d82:=aV 82 f82
def apu:=a_ f82 82
def aij:=ak 83 f83 0
def aik:=ak 83 f83 1
def ail:=ak 83 f83 2
def aim:=ak 83 f83 3
def ain:=ak 83 f83 4
def aio:=ak 83 f83 5
def d83:=aV 83 f83
def apv:=a_ f83 83
def aip:=ak 84 f84 0
def aiq:=ak 84 f84 1
def air:=ak 84 f84 2
def Ph:=ak 84 f84 3
def Pj:=ak 84 f84 4
def Pk:=ak 84 f84 5
def Pm:=ak 84 f84 6
def d84:=aV 84 f84
def apw:=a_ f84 84
def ais:=ak 85 f85 0
def ait:=ak 85 f85 1
def d85:=aV 85 f85
def apx:=a_ f85 85
def aiu:=ak 86 f86 0
def d86:=aV 86 f86
def apy:=a_ f86 86
def Pn:=ak 87 f87 0
def Po:=ak 87 f87 1
def Pp:=ak 87 f87 2
def Pq:=ak 87 f87 3
def d87:=aV 87 f87
def RM:=a_ f87 87
def HE:=ak 88 f88 0
def HF:=ak 88 f88 1
def HG:=ak 88 f88 2
def d88:=aV 88 f88
def apA:=a_ f88 88
def aiv:=ak 89 f89 0
def d89:=aV 89 f89
def apB:=a_ f89 89
def Pr:=ak 90 f90 0
def Pt:=ak 90 f90 1
def d90:=aV 90 f90
def apC:=a_ f90 90
def aix:=ak 91 f91 0
def d91:=aV 91 f91
def apD:=a_ f91 91
def HH:=ak 96 f96 0
def HI:=ak 96 f96 1
def d96:=aV 96 f96
def apE:=a_ f96 96
def Y2:=ak 118 f118 0
def Y3:=ak 118 f118 1
def Y4:=ak 118 f118 2
def Y5:=ak 118 f118 3
def Y6:=ak 118 f118 4
def Y7:=ak 118 f118 5
def Y8:=ak 118 f118 6
def d118:=aV 118 f118
def anx:=a_ f118 118
def Zw:=ak 146 f146 0
def Zx:=ak 146 f146 1
def ZI:=ak 146 f146 2
def ZT:=ak 146 f146 3
def ZW:=ak 146 f146 4
def ZX:=ak 146 f146 5
def ZY:=ak 146 f146 6
def ZZ:=ak 146 f146 7
def Z0:=ak 146 f146 8
def Z1:=ak 146 f146 9
def Zy:=ak 146 f146 10
def Zz:=ak 146 f146 11
def ZA:=ak 146 f146 12
def ZB:=ak 146 f146 13
def ZC:=ak 146 f146 14
def ZD:=ak 146 f146 15
def ZE:=ak 146 f146 16
def ZF:=ak 146 f146 17
def ZG:=ak 146 f146 18
def ZH:=ak 146 f146 19
def ZJ:=ak 146 f146 20
def ZK:=ak 146 f146 21
def ZL:=ak 146 f146 22
def ZM:=ak 146 f146 23
def ZN:=ak 146 f146 24
def ZO:=ak 146 f146 25
def ZP:=ak 146 f146 26
def ZQ:=ak 146 f146 27
def ZR:=ak 146 f146 28
def ZS:=ak 146 f146 29
def ZU:=ak 146 f146 30
def ZV:=ak 146 f146 31
def d146:=aV 146 f146
def anE:=a_ f146 146
def Z2:=ak 147 f147 0
def Z3:=ak 147 f147 1
def Z4:=ak 147 f147 2
def Z5:=ak 147 f147 3
def Z6:=ak 147 f147 4
def Z7:=ak 147 f147 5
def Z8:=ak 147 f147 6
def Z9:=ak 147 f147 7
def Z_:=ak 147 f147 8
def d147:=aV 147 f147
def anF:=a_ f147 147
def aaa:=ak 148 f148 0
def aab:=ak 148 f148 1
def aac:=ak 148 f148 2
def aad:=ak 148 f148 3
def aae:=ak 148 f148 4
def aaf:=ak 148 f148 5
def d148:=aV 148 f148
def anG:=a_ f148 148
def aag:=ak 149 f149 0
def aah:=ak 149 f149 1
def aai:=ak 149 f149 2
def aaj:=ak 149 f149 3
def aak:=ak 149 f149 4
def aal:=ak 149 f149 5
def aam:=ak 149 f149 6
def d149:=aV 149 f149
def anH:=a_ f149 149
def aan:=ak 150 f150 0
def aao:=ak 150 f150 1
def aap:=ak 150 f150 2
def aaq:=ak 150 f150 3
def aar:=ak 150 f150 4
def aas:=ak 150 f150 5
def aat:=ak 150 f150 6
def aau:=ak 150 f150 7
def aav:=ak 150 f150 8
def aaw:=ak 150 f150 9
def d150:=aV 150 f150
def anJ:=a_ f150 150
def acw:=ak 219 f219 0
def acy:=ak 219 f219 1
def acz:=ak 219 f219 2
def acA:=ak 219 f219 3
def acB:=ak 219 f219 4
def acC:=ak 219 f219 5
def d219:=aV 219 f219
def aoe:=a_ f219 219
def O6:=ak 36 f36 0
def O7:=ak 36 f36 1
def O8:=ak 36 f36 2
def d36:=aV 36 f36
def ao4:=a_ f36 36
def Dh:=ak 22 f22 0
def Di:=ak 22 f22 1
def Dj:=ak 22 f22 2
def acS:=ak 22 f22 3
def d22:=aV 22 f22
def aof:=a_ f22 22
def agt:=ak 35 f35 0
def agu:=ak 35 f35 1
def agv:=ak 35 f35 2
def agw:=ak 35 f35 3
def OS:=ak 35 f35 4
def d35:=aV 35 f35
def aoY:=a_ f35 35
def agR:=ak 37 f37 0
def HA:=ak 37 f37 1
def d37:=aV 37 f37
def ao8:=a_ f37 37
def agS:=ak 38 f38 0
def HB:=ak 38 f38 1
def d38:=aV 38 f38
def ao9:=a_ f38 38
def agT:=ak 39 f39 0
def d39:=aV 39 f39
def ao_:=a_ f39 39
def agU:=ak 40 f40 0
def d40:=aV 40 f40
def ao':=a_ f40 40
def ahX:=ak 63 f63 0
def d63:=aV 63 f63
def apo:=a_ f63 63
def ahZ:=ak 65 f65 0
def d65:=aV 65 f65
def apr:=a_ f65 65
def ah0:=ak 68 f68 0
def ah1:=ak 68 f68 1
def ah8:=ak 68 f68 2
def ah9:=ak 68 f68 3
def ah_:=ak 68 f68 4
def HC:=ak 68 f68 5
def ah':=ak 68 f68 6
def aia:=ak 68 f68 7
def aib:=ak 68 f68 8
def aic:=ak 68 f68 9
def ah2:=ak 68 f68 10
def ah3:=ak 68 f68 11
def ah4:=ak 68 f68 12
def ah5:=ak 68 f68 13
def ah6:=ak 68 f68 14
def ah7:=ak 68 f68 15
def Pg:=ak 68 f68 16
def d68:=aV 68 f68
def aps:=a_ f68 68
def aih:=ak 7 f7 0
def d7:=aV 7 f7
def eB:=a_ f7 7
def aiw:=ak 8 f8 0
def d8:=aV 8 f8
def lH:=a_ f8 8
def Y9:=ak 11 f11 0
def Y_:=ak 11 f11 1
def Za:=ak 11 f11 2
def Ng:=ak 11 f11 3
def d11:=aV 11 f11
def sx:=a_ f11 11
def agV:=ak 42 f42 0
def agW:=ak 42 f42 1
def d42:=aV 42 f42
def apa:=a_ f42 42
def agX:=ak 47 f47 0
def agY:=ak 47 f47 1
def agZ:=ak 47 f47 2
def ag0:=ak 47 f47 3
def ag1:=ak 47 f47 4
def ag2:=ak 47 f47 5
def ag3:=ak 47 f47 6
def ag4:=ak 47 f47 7
def ag5:=ak 47 f47 8
def ag6:=ak 47 f47 9
def d47:=aV 47 f47
def apb:=a_ f47 47
def ag7:=ak 49 f49 0
def ag8:=ak 49 f49 1
def ag9:=ak 49 f49 2
def ag_:=ak 49 f49 3
def ag':=ak 49 f49 4
def aha:=ak 49 f49 5
def d49:=aV 49 f49
def apc:=a_ f49 49
def ahb:=ak 50 f50 0
def ahc:=ak 50 f50 1
def ahd:=ak 50 f50 2
def ahe:=ak 50 f50 3
def ahf:=ak 50 f50 4
def ahg:=ak 50 f50 5
def d50:=aV 50 f50
def apd:=a_ f50 50
def ahh:=ak 51 f51 0
def ahi:=ak 51 f51 1
def ahj:=ak 51 f51 2
def d51:=aV 51 f51
def ape:=a_ f51 51
def ahk:=ak 52 f52 0
def d52:=aV 52 f52
def apf:=a_ f52 52
def ahl:=ak 53 f53 0
def d53:=aV 53 f53
def apg:=a_ f53 53
def ahS:=ak 62 f62 0
def ahT:=ak 62 f62 1
def Pf:=ak 62 f62 2
def ahU:=ak 62 f62 3
def ahV:=ak 62 f62 4
def ahW:=ak 62 f62 5
def d62:=aV 62 f62
def RL:=a_ f62 62
def ahY:=ak 64 f64 0
def d64:=aV 64 f64
def apq:=a_ f64 64
def aiy:=ak 98 f98 0
def aiz:=ak 98 f98 1
def aiA:=ak 98 f98 2
def aiB:=ak 98 f98 3
def aiC:=ak 98 f98 4
def aiD:=ak 98 f98 5
def aiE:=ak 98 f98 6
def d98:=aV 98 f98
def RN:=a_ f98 98
def YQ:=ak 116 f116 0
def YR:=ak 116 f116 1
def YV:=ak 116 f116 2
def Nf:=ak 116 f116 3
def YW:=ak 116 f116 4
def YX:=ak 116 f116 5
def YY:=ak 116 f116 6
def YZ:=ak 116 f116 7
def Y0:=ak 116 f116 8
def Y1:=ak 116 f116 9
def YS:=ak 116 f116 10
def YT:=ak 116 f116 11
def YU:=ak 116 f116 12
def d116:=aV 116 f116
def anw:=a_ f116 116
def NI:=ak 182 f182 0
def GP:=ak 182 f182 1
def abA:=ak 182 f182 2
def abB:=ak 182 f182 3
def abC:=ak 182 f182 4
def abD:=ak 182 f182 5
def abE:=ak 182 f182 6
def abF:=ak 182 f182 7
def NJ:=ak 182 f182 8
def d182:=aV 182 f182
def an6:=a_ f182 182
def abG:=ak 183 f183 0
def abH:=ak 183 f183 1
def abJ:=ak 183 f183 2
def abK:=ak 183 f183 3
def GQ:=ak 183 f183 4
def abL:=ak 183 f183 5
def abM:=ak 183 f183 6
def abN:=ak 183 f183 7
def GR:=ak 183 f183 8
def abO:=ak 183 f183 9
def abI:=ak 183 f183 10
def d183:=aV 183 f183
def an7:=a_ f183 183
def aiJ:=ak 9 f9 0
def d9:=aV 9 f9
def pJ:=a_ f9 9
def ahB:=ak 60 f60 0
def ahC:=ak 60 f60 1
def Pc:=ak 60 f60 2
def ahG:=ak 60 f60 3
def ahH:=ak 60 f60 4
def ahI:=ak 60 f60 5
def Pd:=ak 60 f60 6
def ahJ:=ak 60 f60 7
def ahK:=ak 60 f60 8
def ahL:=ak 60 f60 9
def ahD:=ak 60 f60 10
def ahE:=ak 60 f60 11
def ahF:=ak 60 f60 12
def d60:=aV 60 f60
def apm:=a_ f60 60
def YN:=ak 114 f114 0
def d114:=aV 114 f114
def anu:=a_ f114 114
def YO:=ak 115 f115 0
def YP:=ak 115 f115 1
def d115:=aV 115 f115
def anv:=a_ f115 115
def NG:=ak 181 f181 0
def NH:=ak 181 f181 1
def aby:=ak 181 f181 2
def abz:=ak 181 f181 3
def d181:=aV 181 f181
def an5:=a_ f181 181
def N_:=ak 245 f245 0
def adj:=ak 245 f245 1
def Oa:=ak 245 f245 2
def adk:=ak 245 f245 3
def adl:=ak 245 f245 4
def adm:=ak 245 f245 5
def adn:=ak 245 f245 6
def ado:=ak 245 f245 7
def d245:=aV 245 f245
def aov:=a_ f245 245
def aeU:=ak 305 f305 0
def aeV:=ak 305 f305 1
def Ov:=ak 305 f305 2
def aeX:=ak 305 f305 3
def aeY:=ak 305 f305 4
def aeZ:=ak 305 f305 5
def ae0:=ak 305 f305 6
def ae1:=ak 305 f305 7
def ae2:=ak 305 f305 8
def ae3:=ak 305 f305 9
def aeW:=ak 305 f305 10
def d305:=aV 305 f305
def aoR:=a_ f305 305
def aa':=ak 163 f163 0
def aba:=ak 163 f163 1
def abb:=ak 163 f163 2
def Nt:=ak 163 f163 3
def Nu:=ak 163 f163 4
def abc:=ak 163 f163 5
def Nv:=ak 163 f163 6
def abd:=ak 163 f163 7
def d163:=aV 163 f163
def anR:=a_ f163 163
def AO:=ak 121 f121 0
def Zd:=ak 121 f121 1
def xF:=ak 121 f121 2
def Ze:=ak 121 f121 3
def Zf:=ak 121 f121 4
def Zg:=ak 121 f121 5
def Zh:=ak 121 f121 6
def d121:=aV 121 f121
def anA:=a_ f121 121
def abW:=ak 186 f186 0
def abX:=ak 186 f186 1
def GS:=ak 186 f186 2
def abY:=ak 186 f186 3
def abZ:=ak 186 f186 4
def d186:=aV 186 f186
def an_:=a_ f186 186
def abV:=ak 185 f185 0
def d185:=aV 185 f185
def an9:=a_ f185 185
def adp:=ak 246 f246 0
def adq:=ak 246 f246 1
def d246:=aV 246 f246
def aow:=a_ f246 246
def Ow:=ak 306 f306 0
def d306:=aV 306 f306
def aoS:=a_ f306 306
def Zi:=ak 122 f122 0
def d122:=aV 122 f122
def anB:=a_ f122 122
def ab0:=ak 187 f187 3
def ab1:=ak 187 f187 4
def ab2:=ak 187 f187 5
def d187:=aV 187 f187
def an':=a_ f187 187
def adr:=ak 247 f247 1
def ads:=ak 247 f247 5
def adt:=ak 247 f247 6
def adu:=ak 247 f247 7
def d247:=aV 247 f247
def aox:=a_ f247 247
def ae4:=ak 307 f307 0
def ae5:=ak 307 f307 1
def Ox:=ak 307 f307 2
def afe:=ak 307 f307 3
def aff:=ak 307 f307 4
def afg:=ak 307 f307 5
def Hp:=ak 307 f307 6
def Oy:=ak 307 f307 7
def Oz:=ak 307 f307 8
def OA:=ak 307 f307 9
def ae6:=ak 307 f307 10
def ae7:=ak 307 f307 11
def ae8:=ak 307 f307 12
def ae9:=ak 307 f307 13
def ae_:=ak 307 f307 14
def ae':=ak 307 f307 15
def afa:=ak 307 f307 16
def afb:=ak 307 f307 17
def afc:=ak 307 f307 18
def afd:=ak 307 f307 19
def d307:=aV 307 f307
def aoT:=a_ f307 307
def Zj:=ak 123 f123 0
def d123:=aV 123 f123
def anC:=a_ f123 123
def ab3:=ak 188 f188 0
def ab4:=ak 188 f188 1
def ab8:=ak 188 f188 2
def ab9:=ak 188 f188 3
def ab_:=ak 188 f188 4
def NM:=ak 188 f188 5
def ab':=ak 188 f188 6
def acd:=ak 188 f188 7
def ace:=ak 188 f188 8
def GU:=ak 188 f188 9
def ab5:=ak 188 f188 10
def ab6:=ak 188 f188 11
def NL:=ak 188 f188 12
def ab7:=ak 188 f188 13
def d188:=aV 188 f188
def aoa:=a_ f188 188
def ac0:=ak 235 f235 0
def G1:=ak 235 f235 1
def ac1:=ak 235 f235 2
def ac2:=ak 235 f235 3
def ac3:=ak 235 f235 4
def G2:=ak 235 f235 5
def d235:=aV 235 f235
def aoo:=a_ f235 235
def Of:=ak 254 f254 0
def Og:=ak 254 f254 1
def adS:=ak 254 f254 2
def adT:=ak 254 f254 3
def adU:=ak 254 f254 4
def adV:=ak 254 f254 5
def adX:=ak 254 f254 6
def adY:=ak 254 f254 7
def He:=ak 254 f254 8
def d254:=aV 254 f254
def aoB:=a_ f254 254
def adZ:=ak 255 f255 0
def ad0:=ak 255 f255 1
def ad1:=ak 255 f255 2
def ad2:=ak 255 f255 3
def ad3:=ak 255 f255 4
def ad4:=ak 255 f255 5
def d255:=aV 255 f255
def aoC:=a_ f255 255
def acT:=ak 231 f231 0
def d231:=aV 231 f231
def aol:=a_ f231 231
def G3:=ak 236 f236 0
def d236:=aV 236 f236
def aop:=a_ f236 236
def abf:=ak 165 f165 0
def d165:=aV 165 f165
def anT:=a_ f165 165
def GJ:=ak 124 f124 0
def d124:=aV 124 f124
def anD:=a_ f124 124
def ad7:=ak 276 f276 0
def ad8:=ak 276 f276 1
def Hf:=ak 276 f276 2
def ad':=ak 276 f276 3
def aea:=ak 276 f276 4
def Oh:=ak 276 f276 5
def aeb:=ak 276 f276 6
def aec:=ak 276 f276 7
def aed:=ak 276 f276 8
def Oi:=ak 276 f276 9
def ad9:=ak 276 f276 10
def ad_:=ak 276 f276 11
def d276:=aV 276 f276
def aoF:=a_ f276 276
def aeq:=ak 298 f298 0
def On:=ak 298 f298 1
def Hg:=ak 298 f298 2
def Hh:=ak 298 f298 3
def Hi:=ak 298 f298 4
def aer:=ak 298 f298 5
def aes:=ak 298 f298 6
def d298:=aV 298 f298
def aoM:=a_ f298 298
def aef:=ak 288 f288 0
def d288:=aV 288 f288
def aoH:=a_ f288 288
def acD:=ak 224 f224 0
def d224:=aV 224 f224
def aog:=a_ f224 224
def aeg:=ak 290 f290 0
def aeh:=ak 290 f290 1
def Oj:=ak 290 f290 2
def aei:=ak 290 f290 3
def aej:=ak 290 f290 4
def aek:=ak 290 f290 5
def ael:=ak 290 f290 6
def aem:=ak 290 f290 7
def d290:=aV 290 f290
def aoI:=a_ f290 290
def adv:=ak 248 f248 0
def Ob:=ak 248 f248 1
def d248:=aV 248 f248
def RD:=a_ f248 248
def adR:=ak 253 f253 0
def Oe:=ak 253 f253 1
def d253:=aV 253 f253
def aoA:=a_ f253 253
def OD:=ak 314 f314 0
def OE:=ak 314 f314 1
def OF:=ak 314 f314 2
def OJ:=ak 314 f314 3
def afI:=ak 314 f314 4
def OK:=ak 314 f314 5
def OL:=ak 314 f314 6
def OM:=ak 314 f314 7
def ON:=ak 314 f314 8
def afJ:=ak 314 f314 9
def afs:=ak 314 f314 10
def aft:=ak 314 f314 11
def afu:=ak 314 f314 12
def afv:=ak 314 f314 13
def afw:=ak 314 f314 14
def afx:=ak 314 f314 15
def afy:=ak 314 f314 16
def afz:=ak 314 f314 17
def afA:=ak 314 f314 18
def afB:=ak 314 f314 19
def afC:=ak 314 f314 20
def afD:=ak 314 f314 21
def afE:=ak 314 f314 22
def afF:=ak 314 f314 23
def afG:=ak 314 f314 24
def afH:=ak 314 f314 25
def OG:=ak 314 f314 26
def OH:=ak 314 f314 27
def OI:=ak 314 f314 28
def d314:=aV 314 f314
def RH:=a_ f314 314
def afq:=ak 313 f313 0
def afr:=ak 313 f313 1
def d313:=aV 313 f313
def aoW:=a_ f313 313
def aee:=ak 277 f277 0
def d277:=aV 277 f277
def aoG:=a_ f277 277
def afn:=ak 311 f311 0
def afo:=ak 311 f311 1
def afp:=ak 311 f311 2
def d311:=aV 311 f311
def aoV:=a_ f311 311
def aet:=ak 299 f299 0
def Oo:=ak 299 f299 1
def Hj:=ak 299 f299 2
def Hl:=ak 299 f299 3
def Ho:=ak 299 f299 4
def aeu:=ak 299 f299 5
def aev:=ak 299 f299 6
def d299:=aV 299 f299
def aoN:=a_ f299 299
def af':=ak 355 f355 0
def d355:=aV 355 f355
def ao1:=a_ f355 355
def Nw:=ak 166 f166 0
def AQ:=ak 166 f166 1
def AR:=ak 166 f166 2
def y2:=ak 166 f166 3
def d166:=aV 166 f166
def anU:=a_ f166 166
def abh:=ak 168 f168 0
def d168:=aV 168 f168
def Rw:=a_ f168 168
def Nx:=ak 169 f169 0
def Ny:=ak 169 f169 1
def d169:=aV 169 f169
def Rx:=a_ f169 169
def abm:=ak 172 f172 0
def Df:=ak 172 f172 1
def d172:=aV 172 f172
def anY:=a_ f172 172
def abn:=ak 173 f173 0
def d173:=aV 173 f173
def anZ:=a_ f173 173
def abt:=ak 177 f177 0
def abu:=ak 177 f177 1
def ND:=ak 177 f177 2
def d177:=aV 177 f177
def an3:=a_ f177 177
def abv:=ak 178 f178 0
def abw:=ak 178 f178 1
def NF:=ak 178 f178 2
def d178:=aV 178 f178
def an4:=a_ f178 178
def acv:=ak 218 f218 0
def NO:=ak 218 f218 1
def NP:=ak 218 f218 2
def NQ:=ak 218 f218 3
def d218:=aV 218 f218
def aod:=a_ f218 218
def acU:=ak 232 f232 2
def acV:=ak 232 f232 3
def acW:=ak 232 f232 4
def acX:=ak 232 f232 5
def N3:=ak 232 f232 6
def GZ:=ak 232 f232 7
def d232:=aV 232 f232
def RC:=a_ f232 232
def acZ:=ak 234 f234 0
def G0:=ak 234 f234 1
def d234:=aV 234 f234
def aon:=a_ f234 234
def ac4:=ak 237 f237 0
def ac5:=ak 237 f237 1
def N5:=ak 237 f237 2
def ac6:=ak 237 f237 3
def Dk:=ak 237 f237 15
def Dl:=ak 237 f237 16
def N4:=ak 237 f237 17
def d237:=aV 237 f237
def aoq:=a_ f237 237
def ac7:=ak 238 f238 0
def N6:=ak 238 f238 1
def d238:=aV 238 f238
def aor:=a_ f238 238
def ac8:=ak 239 f239 0
def ac9:=ak 239 f239 1
def ac_:=ak 239 f239 2
def ada:=ak 239 f239 3
def N7:=ak 239 f239 4
def N8:=ak 239 f239 5
def d239:=aV 239 f239
def aos:=a_ f239 239
def adb:=ak 240 f240 0
def ade:=ak 240 f240 1
def adf:=ak 240 f240 2
def N9:=ak 240 f240 3
def d240:=aV 240 f240
def aot:=a_ f240 240
def adg:=ak 241 f241 0
def adh:=ak 241 f241 1
def adi:=ak 241 f241 2
def d241:=aV 241 f241
def aou:=a_ f241 241
def adw:=ak 249 f249 0
def adx:=ak 249 f249 1
def adD:=ak 249 f249 2
def adE:=ak 249 f249 3
def adF:=ak 249 f249 4
def adG:=ak 249 f249 5
def adH:=ak 249 f249 6
def adI:=ak 249 f249 7
def adJ:=ak 249 f249 8
def adK:=ak 249 f249 9
def ady:=ak 249 f249 10
def G4:=ak 249 f249 11
def adz:=ak 249 f249 12
def adA:=ak 249 f249 13
def adB:=ak 249 f249 14
def adC:=ak 249 f249 15
def d249:=aV 249 f249
def aoy:=a_ f249 249
def G5:=ak 250 f250 0
def G6:=ak 250 f250 1
def d250:=aV 250 f250
def II:=a_ f250 250
def Oc:=ak 251 f251 0
def adL:=ak 251 f251 1
def Od:=ak 251 f251 2
def adM:=ak 251 f251 3
def adN:=ak 251 f251 4
def adO:=ak 251 f251 5
def adP:=ak 251 f251 6
def adQ:=ak 251 f251 7
def d251:=aV 251 f251
def aoz:=a_ f251 251
def G7:=ak 252 f252 0
def G8:=ak 252 f252 1
def y3:=ak 252 f252 2
def G9:=ak 252 f252 3
def G_:=ak 252 f252 4
def d252:=aV 252 f252
def IJ:=a_ f252 252
def Ol:=ak 297 f297 5
def Om:=ak 297 f297 6
def d297:=aV 297 f297
def RG:=a_ f297 297
def aew:=ak 300 f300 0
def aex:=ak 300 f300 1
def Oq:=ak 300 f300 2
def aey:=ak 300 f300 3
def aez:=ak 300 f300 4
def aeA:=ak 300 f300 5
def aeB:=ak 300 f300 6
def d300:=aV 300 f300
def aoO:=a_ f300 300
def aeC:=ak 302 f302 0
def aeD:=ak 302 f302 1
def Ot:=ak 302 f302 2
def aeE:=ak 302 f302 3
def aeF:=ak 302 f302 4
def aeG:=ak 302 f302 5
def aeH:=ak 302 f302 6
def aeI:=ak 302 f302 7
def aeJ:=ak 302 f302 8
def aeK:=ak 302 f302 9
def d302:=aV 302 f302
def aoP:=a_ f302 302
def aeL:=ak 303 f303 0
def aeM:=ak 303 f303 1
def Ou:=ak 303 f303 2
def aeN:=ak 303 f303 3
def aeO:=ak 303 f303 4
def aeP:=ak 303 f303 5
def aeQ:=ak 303 f303 6
def aeR:=ak 303 f303 7
def aeS:=ak 303 f303 8
def aeT:=ak 303 f303 9
def d303:=aV 303 f303
def aoQ:=a_ f303 303
def afh:=ak 308 f308 0
def d308:=aV 308 f308
def aoU:=a_ f308 308
def afi:=ak 310 f310 0
def afj:=ak 310 f310 1
def OB:=ak 310 f310 2
def afk:=ak 310 f310 3
def OC:=ak 310 f310 4
def afl:=ak 310 f310 5
def afm:=ak 310 f310 6
def Hw:=ak 310 f310 7
def Hx:=ak 310 f310 8
def Hy:=ak 310 f310 9
def Hq:=ak 310 f310 10
def Hr:=ak 310 f310 11
def Hs:=ak 310 f310 12
def Ht:=ak 310 f310 13
def Hu:=ak 310 f310 14
def Hv:=ak 310 f310 15
def d310:=aV 310 f310
def IK:=a_ f310 310
def afQ:=ak 354 f354 0
def afR:=ak 354 f354 1
def afW:=ak 354 f354 2
def af4:=ak 354 f354 3
def af5:=ak 354 f354 4
def af6:=ak 354 f354 5
def af7:=ak 354 f354 6
def af8:=ak 354 f354 7
def af9:=ak 354 f354 8
def af_:=ak 354 f354 9
def OP:=ak 354 f354 10
def afS:=ak 354 f354 11
def OQ:=ak 354 f354 12
def afT:=ak 354 f354 13
def afU:=ak 354 f354 14
def afV:=ak 354 f354 19
def afX:=ak 354 f354 20
def afY:=ak 354 f354 21
def afZ:=ak 354 f354 22
def af0:=ak 354 f354 23
def af1:=ak 354 f354 24
def af2:=ak 354 f354 25
def af3:=ak 354 f354 26
def d354:=aV 354 f354
def RI:=a_ f354 354
def aga:=ak 356 f356 0
def agb:=ak 356 f356 1
def agd:=ak 356 f356 2
def age:=ak 356 f356 3
def agf:=ak 356 f356 4
def agh:=ak 356 f356 5
def agi:=ak 356 f356 6
def agj:=ak 356 f356 7
def agk:=ak 356 f356 8
def agl:=ak 356 f356 9
def agc:=ak 356 f356 10
def d356:=aV 356 f356
def ao2:=a_ f356 356
def agm:=ak 358 f358 0
def agn:=ak 358 f358 1
def OR:=ak 358 f358 2
def ago:=ak 358 f358 3
def agp:=ak 358 f358 4
def agq:=ak 358 f358 5
def agr:=ak 358 f358 6
def ags:=ak 358 f358 7
def Hz:=ak 358 f358 8
def d358:=aV 358 f358
def ao3:=a_ f358 358
def Dm:=ak 363 f363 0
def Dn:=ak 363 f363 1
def y4:=ak 363 f363 2
def OT:=ak 363 f363 3
def OU:=ak 363 f363 4
def OV:=ak 363 f363 5
def OW:=ak 363 f363 6
def OX:=ak 363 f363 7
def Dp:=ak 363 f363 8
def d363:=aV 363 f363
def IL:=a_ f363 363
def agx:=ak 364 f364 0
def agy:=ak 364 f364 1
def agz:=ak 364 f364 2
def agA:=ak 364 f364 3
def agB:=ak 364 f364 4
def agC:=ak 364 f364 5
def agD:=ak 364 f364 6
def d364:=aV 364 f364
def ao5:=a_ f364 364
def OY:=ak 365 f365 0
def OZ:=ak 365 f365 1
def O1:=ak 365 f365 2
def O2:=ak 365 f365 3
def Dq:=ak 365 f365 4
def agE:=ak 365 f365 5
def agF:=ak 365 f365 6
def agG:=ak 365 f365 7
def O3:=ak 365 f365 8
def O4:=ak 365 f365 9
def O0:=ak 365 f365 10
def d365:=aV 365 f365
def ao6:=a_ f365 365
def agH:=ak 366 f366 0
def agI:=ak 366 f366 1
def O5:=ak 366 f366 2
def agJ:=ak 366 f366 3
def agK:=ak 366 f366 4
def agL:=ak 366 f366 5
def agM:=ak 366 f366 6
def d366:=aV 366 f366
def ao7:=a_ f366 366
end
end Go.Proofs.YtddhncjmaahodaaGreatDoor
