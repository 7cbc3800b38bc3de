/- Towards the law TreeCovers: lemmas on the evaluator of the model's code, plain laws of numbers, walks of the program's functions, the card. No conditions. -/
import Derived.Test.YtddhncjmaahodaaGreatDoorE2
set_option linter.all false
noncomputable section
open Bool renaming false_eq_true->jk,not_false->lS,not_true->jQ
open Classical renaming byContradiction->qI
open Go.IntKind renaming bits->rQ,signed->rR,wrap->uv
open Go.Proofs.Tryz renaming prog->e9
open Int renaming natAbs_mul->nM,natAbs_natCast->eU,natAbs_neg->pY,natCast_mul->fF,natCast_nonneg->w9,natCast_zero->kh,ofNat_lt->s3,tdiv->mP,tmod->oB,toNat_natCast->cg
open List renaming all_eq_true->qJ,append_assoc->gX,append_nil->hU,cons_append->gv,drop_eq_getElem_cons->mQ,drop_of_length_le->mR,drop_replicate->xb,eq_nil_of_length_eq_zero->pn,getD_eq_getElem?_getD->bT,getElem?_append_left->s4,getElem?_drop->yD,getElem?_eq_getElem->c4,getElem?_eq_none->lA,getElem?_eq_some_iff->jo,getElem?_map->hY,getElem?_range->p4,getElem_mem->s5,length->af,length_append->bw,length_cons->dZ,length_drop->lB,length_map->gD,length_nil->p5,length_range->rT,length_replicate->ux,length_singleton->iA,length_take->e8,length_take_of_le->jq,map_append->vJ,mem_append->ki,mem_cons->jr,mem_map->g8,mem_of_getElem?->fL,mem_of_mem_take->oD,mem_singleton->fj,nil_append->fS,not_mem_nil->rV,range->kZ,replicate->aZ,replicate_succ->qK,replicate_zero->qL,take_append_drop->p6,take_append_of_le_length->Am,take_left'->s6,take_left->vL,take_of_length_le->dr,take_succ_eq_append_getElem->lT,take_zero->vM
open Nat renaming add_comm->i_,add_mul->fT,add_sub_cancel->vN,add_zero->dG,beq->bt,beq_refl->uA,ble->b6,div_add_mod->kj,div_div_eq_div_mul->qO,div_eq_of_lt->mw,div_le_self->js,div_lt_iff_lt_mul->s8,div_one->pA,gcd->c9,gcd_comm->rX,gcd_dvd_right->xe,gcd_one_right->xg,le_add_right->qP,le_mul_of_pos_left->yI,le_of_ble_eq_true->jI,le_of_lt->ja,le_of_not_lt->k4,le_refl->aJ,le_succ->s9,le_trans->c5,lt_of_le_of_lt->fu,lt_of_lt_of_le->fy,lt_of_mul_lt_mul_right->vP,lt_of_not_le->uC,lt_or_ge->rY,lt_succ_self->nO,lt_trans->rZ,min_eq_left->p7,mod_eq_of_lt->jR,mod_lt->fD,mul->fz,mul_add->dL,mul_comm->dy,mul_le_mul->iP,mul_le_mul_left->eN,mul_le_mul_right->ei,mul_lt_mul_of_pos_right->qQ,mul_mod_mul_right->uD,mul_ne_zero->xj,mul_one->eD,mul_pos->s_,mul_zero->gj,one_mul->kn,pos_of_ne_zero->lC,pow_add->iB,pow_le_pow_right->iI,pow_pos->gE,pow_succ->dX,pow_zero->r0,reduceEqDiff->mz,sub_self->nQ,succ_mul->qR,succ_pos->mA,zero_add->eW,zero_le->cj,zero_mul->j4
open Option renaming isSome->ta,none->aN
open UInt8 renaming ofNat->iD
namespace Go.Proofs.YtddhncjmaahodaaGreatDoor
open Go.ax Go.aD
def Fj(l:av):∃a,W.trim l++a=l:=by rw[Fk l];exact⟨l.drop (af (W.trim l)),p6 _ _⟩
def aud(n s:Nat)(G:s<=63)(D:n≠0)(ln:af (az n)<100000)(N:Nat):dm 363 [bx (az n),aC s] (ah.zero N) λv d=>∃A c,v=.slice N 0 (af (az (n/2^s))) c/\N<d.ag/\d.get N=an (aQ (az (n/2^s)++A)) 0:=by
 refine bg IL ?_;have o:=g5 n;have J:=g7 n;have a5:¬(64:Int)=0:=ai;have a0:mP (s:Int) 64=0:=by show(((s/64:Nat)):Int)=0;omega
 have a1:oB (s:Int) 64=(s:Int):=by show(((s%64:Nat)):Int)=_;omega
 have w0:aE .u64 (0:Int)=0:=cz _ ai;have w1:aE .i64 (0:Int)=0:=aK _ ai;have wl:aE .u64 ((af (az n):Nat):Int)=((af (az n):Nat):Int):=cz _ aa;have M:=(j7 n).2 D;clear D;have ht:(((af (az n):Nat):Int)-0).toNat=af (az n):=aa;simp(disch:=omega)only[go_sem,d363,Dp,OX,OW,OV,dt,j5,nY,a0,a1,w0,w1,wl,aK,Int.sub_zero,cg,iG,qv];generalize az n=x at o J M ln⊢
 obtain⟨y,h⟩:∃y,y=W.shr s x:=⟨_,rfl⟩;have am:af y=af x:=by rw[h,W.vo]
 have ar:W.val y=n/2^s:=by rw[h,W.zV G,J]
 have ap:W.aG y:=by rw[h];exact W.yg G o
 have al:∀i,i<af x->y.getD i 0=x.getD i 0/2^s+(x.getD (i+1) 0%2^s)*2^(64-s):=λi hi=>by rw[h];exact W.zU hi
 clear h;have E:ej s (h_ .u64)=s:=lM (aa:s<=64);have X:ej (64-s) (h_ .u64)=64-s:=lM (aa:64-s<=64);have P:aE .u64 ((64:Int)-(s:Int))=((64-s:Nat):Int):=by rw[cz _ aa];omega
 refine b8 (λk a d=>∃i:Nat,k=af x-i/\i<=af x/\rd 0 a=bx x/\rd 5 a=aj 0/\rd 6 a=aC s/\rd 7 a=.slice N 0 (af x) (.known (af x))/\rd 26 a=aj (af x)/\rd 27 a=aj i/\
  eZ ((ah.zero N).push (an (aQ (aZ (af x) 0)) 0)) d N (aQ (y.take i++aZ (af x-i) 0))) (af x) ⟨0,rfl,cj _,?_,?_,?_,?_,?_,?_,eZ.refl ?_⟩ ?_
 iterate 5 simp only[go_sem]
 .simp only[go_sem];rfl
 .simp only[go_sem];rfl
 rintro k a d ⟨i,rfl,hi,j,l,m,f,e,q,b⟩;rw[OT];by_cases U:i<af x
 .have L:=o.getD i;have ba:=o.getD (i+1);obtain⟨r,hr⟩:∃r,af x-i=r+1:=⟨af x-i-1,aa⟩;rw[hr,qK (n:=r)]at b;have hl:af (y.take i)=i:=jq aa;have a7:i<af (aQ (y.take i++0::aZ r 0)):=by rw[fo,bw,hl];simp
  have g:=b.at;have H:=λv=>nH (es:=aZ r 0) (e:=0) (v:=v) hl
  have t:=b.set (aQ (y.take i++(x.getD i 0/2^s)::aZ r 0));have p:=al i U;have B:=HP (s:=s) aa L;have S:((i:Int)+1).toNat=i+1:=aa;by_cases a6:i+1<af x
  .have z:=TJ (e:=x.getD (i+1) 0) (s:=s) aa;have w:=Jl (x:=x.getD (i+1) 0) (s:=64-s) aa B;have V:=F4 (x:=x.getD (i+1) 0) (s:=64-s) aa B;rw[z,<-p]at w V;have Z:((x.getD (i+1) 0:Nat):Int)*((2^(64-s):Nat):Int)=((x.getD (i+1) 0*2^(64-s):Nat):Int):=by rw[fF]
   have K:aE .u64 ((x.getD (i+1) 0*2^(64-s):Nat):Int)=(((x.getD (i+1) 0%2^s)*2^(64-s):Nat):Int):=by rw[hN,<-z,Int.natCast_emod];rfl
   have C:(x.getD (i+1) 0%2^s)*2^(64-s)<18446744073709551616:=by rw[<-z];exact fD _ ai
   have Q:x.getD i 0/2^s<18446744073709551616:=fu (js _ _) L;have a8:i<af (aQ (y.take i++(x.getD i 0/2^s)::aZ r 0)):=by rw[fo,bw,hl];simp
   have a9:i<af (y.take i++(x.getD i 0/2^s)::aZ r 0):=by rw[bw,hl];simp
   have R:=so (es:=aZ r 0) (e:=x.getD i 0/2^s) hl;have ad:=nH (es:=aZ r 0) (e:=x.getD i 0/2^s) (v:=y.getD i 0) hl;generalize(x.getD (i+1) 0%2^s)*2^(64-s)=u at w K C
   have F:=zI ⟨Q,C⟩;rw[w]at F;simp(disch:=omega)only[go_sem,y4,Dn,Dm,j,l,m,f,e,q,dt,ir,cH,cg,S,eG,aK,Int.add_zero,E,X,P,Z,K,ot,g,R,F,fE,lP,H,ad];refine⟨r,aa,i+1,aa,aa,?_,?_,?_,?_,?_,?_,?_⟩
   iterate 5 simp only[go_sem,j,l,m,f,e]
   .simp only[go_sem];rfl
   .have O:=t.set (aQ (y.take i++y.getD i 0::aZ r 0));rw[(aa:af x-(i+1)=r),yo aa,gX];exact O
  .have ae:x.getD (i+1) 0=0:=by rw[bT,lA aa];rfl
   rw[ae,Nat.zero_mod,j4,dG]at p;rw[<-p]at t;simp(disch:=omega)only[go_sem,y4,Dn,Dm,j,l,m,f,e,q,dt,df,ir,cH,cg,eG,aK,Int.add_zero,E,ot,g,fE,lP,H,<-p];refine⟨r,aa,i+1,aa,aa,?_,?_,?_,?_,?_,?_,?_⟩
   iterate 5 simp only[go_sem,j,l,m,f,e]
   .simp only[go_sem];rfl
   .rw[(aa:af x-(i+1)=r),yo aa,gX];exact t
 .have T:i=af x:=aa;simp(disch:=omega)only[go_sem,y4,OU,f,e,q,df];rw[T,nQ,qL,hU,dr aa]at b;have g:=b.at;have Y:=b.ag;rw[<-am];refine(avH y [] N (af y) aa aa _ (by rw[hU];exact g)).mono ?_;rintro _ _ ⟨rfl,rfl⟩;simp only[go_sem];have I:=Fj y;rw[nI ap,ar]at I⊢;obtain⟨A,ac⟩:=I;refine⟨A,_,rfl,?_,?_⟩
  .rw[Y];exact nO N
  .rw[g,<-ac]
def ai0(m n:Nat)(w:n≠0)(Q:2<=af (az n))(Z:¬m<n)(bv:m%n≠0)(lm:af (az m)<100000)(ln:af (az n)<100000)(N:Nat):dm 310 [bx (az m),bx (az n)] (ah.zero N) λv K=>∃q b i c,v=.aH [q,.slice b 0 (af (az (m%n))) c]/\N<=b/\b<K.ag/\K.get b=an (aQ (az (m%n)++i)) 0:=by
 refine bg IK ?_;have h1:af (az n)≠1:=aa;have bd:=(j7 n).2 w;simp(disch:=omega)only[go_sem,d310,Hv];refine use (xE m n aa aa) ?_;have cp:¬fW (m:Int) (n:Int)<0:=by
  rcases Nat.lt_or_eq_of_le (k4 Z)with h|h
  .rw[r_ aa];decide
  .rw[C8 aa];decide
 have F:af (az n)<=af (az m):=nu (k4 Z);obtain⟨J,k⟩:∃t,t=(az n).getD (af (az n)-1) 0:=⟨_,rfl⟩;have ae:=Fh n w;have H:=(g5 n).getD (af (az n)-1);rw[<-k]at ae H;obtain⟨g,U,C⟩:=Bl (y:=J) ae H;have ab:=Bk J H;obtain⟨s,hs⟩:∃s,s=64-fk J:=⟨_,rfl⟩;rw[<-hs]at g U C ab;clear hs;have u:0<2^s:=gE ai;have D:=Er w g (by rw[<-k];exact C);have E:=Bv w g (by rw[<-k];exact U) (by rw[<-k];exact C);have bb:aE .u64 ((s:Nat):Int)=(s:Int):=cz _ aa;have al:aE .i64 ((af (az n):Int)-1)=(af (az n):Int)-1:=aK _ aa;have ad:((af (az n):Int)-1).toNat=af (az n)-1:=aa;obtain⟨e,p⟩:∃l,l=af (az m):=⟨_,rfl⟩;obtain⟨l,P⟩:∃l,l=af (az n):=⟨_,rfl⟩;rw[<-p]at F lm;rw[<-P]at bd ln h1 Q F k D E al ad;have R:af (az (m*2^s))<=e+1:=by
  refine xL ?_;have a:=pG m;rw[<-p]at a;have b:2^s<=18446744073709551616:=by rw[vi (s:=s) aa];exact yI _ (gE ai)
  rw[dX];exact fy (qQ a u) (eN _ b)
 simp(disch:=omega)only[go_sem,Hu,Ht,df,<-P,al,ir,ad,eG,<-k];refine use ab ?_;simp(disch:=omega)only[go_sem,Hs,bb];refine use (zT n s g aa) ?_;have ca:aE .i64 ((e:Int)+1)=(e:Int)+1:=aK _ aa;have b':((e:Int)+1).toNat=e+1:=aa;simp(disch:=omega)only[go_sem,Hr,Hq,<-p,ca,iG,b',qv];refine use (zT m s g aa) ?_;simp(disch:=omega)only[go_sem];refine DB (cs:=aQ (aZ (e+1) 0)) eJ R (by rw[fo];simp) ?_;obtain⟨f,o⟩:∃X,X=az (m*2^s)++aZ (e+1-af (az (m*2^s))) 0:=⟨_,rfl⟩;have S:aQ (az (m*2^s))++(aQ (aZ (e+1) 0)).drop (af (az (m*2^s)))=aQ f:=by rw[o,Ad];congr 1;rw[aQ,<-List.map_drop,xb];rfl
 have ch:W.aG f:=by rw[o];exact(g5 _).app (wI _)
 have a8:f.length=e+1:=by rw[o];simp;omega
 have T:W.val f=m*2^s:=by rw[o,W.gi,vv,g7,gj,dG]
 rw[S];clear S o R;obtain⟨j,aw⟩:∃j,e+1-l=j:=⟨_,rfl⟩;have cb:aE .i64 ((e:Int)-(l:Int))=(j:Int)-1:=by rw[aK _ aa];omega
 have cd:aE .i64 ((j:Int)-1+1)=(j:Int):=by rw[aK _ aa];omega
 simp(disch:=omega)only[go_sem,Hy,Hx,<-p,cb,cd,iG,qv,cg];have a6:W.val (f.drop j)<W.val (az (n*2^s)):=by have y:=W.rL f j aa;rw[T]at y;have a:=pG m;rw[<-p,(aa:e=j+(l-1)),iB]at a;have b:=qQ a u;obtain⟨r,M,_⟩:=ox (n*2^s) (xj w aa);rw[D]at M;refine Kh b y ?_;rw[g7,M];have a3:2^s<=9223372036854775808:=c5 (iI ai g) ai;have c2:=ei (18446744073709551616^(l-1)) (c5 a3 E);rw[dy];exact c5 c2 (qP _ _)
 refine HO f (az (n*2^s)) l e j ch (g5 _) a8 D Q aw F aa E N (N+1) aa _ _ _ ?_ ?_ ?_ ?_ ?_ a6 ?_ ?_ ?_
 iterate 5 simp only[go_sem]
 .simp only[go_sem];rw[ao aa]
 .simp only[go_sem]
 intro A L r am B hr co ci bs I G bc V bi;have h9:rd 9 A=aC s:=(B 9 ai).trans eJ;have a1:rd 11 A=.slice N 0 (e+1) (.known (e+1)):=(B 11 ai).trans eJ;have a2:rd 12 A=.slice (N+1) 0 j (.known j):=(B 12 ai).trans eJ;rw[gb];rw[T,g7]at I;rw[g7]at G;have a7:0<n*2^s:=s_ aa u;have hq:W.val am=m/n:=by rw[<-Nat.mul_div_mul_right m n u,<-I,dy,Nat.mul_add_div a7,mw G,dG]
 have b1:W.val r=m%n*2^s:=by rw[<-uD,<-I,dy,Nat.mul_add_mod,jR G]
 simp(disch:=omega)only[go_sem,Hw,a2];refine kV (sQ am aa) V ⟨0,_,_,fj.2 rfl⟩ (.f1 (sn V jE bs)) ?_;simp(disch:=omega)only[go_sem,a1];have Y:(L.set (N+1) .none).get N=an (aQ (r++aZ j 0)) 0:=by rw[ah.aT,ao aa];exact bc
 have be:af (r++aZ j 0)=e+1:=e7;refine kV (sQ (r++aZ j 0) aa) Y ⟨0,_,_,fj.2 rfl⟩ (.f1 (sn Y jE be)) ?_;have b2:W.trim (r++aZ j 0)=az (m%n*2^s):=by rw[nI (co.app (wI _)),W.gi,vv,gj,dG,b1]
 rw[b2,nI ci,hq];have b0:af (az (m%n*2^s))<100000:=by have:=nu (m:=m%n*2^s) (n:=n*2^s) (ei _ (ja (fD _ aa)));omega
 have a5:m%n*2^s≠0:=xj bv aa;have bj:N<=L.ag:=by rw[bi];simp only[go_sem];omega
 simp(disch:=omega)only[go_sem,h9];refine(MB (R:=λv b O=>∃i c,v=.slice b 0 (af (az (m%n))) c/\O=aQ (az (m%n)++i)) (dn.refl _) ((aud (m%n*2^s) s g a5 b0 _).mono ?_)).mono ?_
 .rintro _ H4 ⟨i,c,rfl,hb,z⟩;rw[Nat.mul_div_cancel _ u]at z⊢;exact⟨_,_,_,.slice _ _ _,aJ _,hb,z,λx y=>by simp only[aQ,g8]at y;obtain⟨d,_,rfl⟩:=y;exact⟨_,_,rfl⟩,i,c,rfl,rfl⟩
 rintro _ H4 ⟨b,O,⟨i,c,rfl,rfl⟩,a',ba,z⟩;simp(disch:=omega)only[go_sem];exact⟨_,b,i,c,rfl,c5 bj a',ba,by rw[z,ay rfl]⟩
def ai5(m n:Nat)(d:n≠0)(f:2<=af (az n))(i:¬m<n)(j:m%n≠0)(k:af (az m)<80)(l:af (az n)<80)(N:Nat):dm 250 [bx (az m),bx (az n)] (ah.zero N) λv a=>∃q b e c,v=.aH [q,.slice b 0 (af (az (m%n))) c]/\N<=b/\b<a.ag/\a.get b=an (aQ (az (m%n)++e)) 0:=by refine bg II ?_;simp(disch:=omega)only[go_sem,d250,G6,G5,dt];refine(ai0 m n d f i j aa aa N).mono ?_;rintro _ a ⟨q,b,e,c,rfl,g,d,h⟩;simp only[go_sem];exact⟨q,b,e,c,rfl,g,d,h⟩
def sr(l:av)(n s:Nat):Nat:=l.getD (n-1) 0*2^s+l.getD (n-2) 0/2^(64-s)
theorem Rm{l:av}{n s:Nat}(y:s<=63)(d:2<=n)(hl:af l<=n)(j:W.aG l):∃c,W.val l=18446744073709551616^(n-2)*2^(64-s)*sr l n s+c/\c<18446744073709551616^(n-2)*2^(64-s):=by
 have f:∃L:av,L.length=n/\W.val L=W.val l/\W.aG L/\∀i,L.getD i 0=l.getD i 0:=by
  refine⟨l++aZ (n-af l) 0,by simp;omega,by rw[W.gi,vv,gj,dG],j.app (wI _),λi=>?_⟩;simp only[bT];rcases rY i (af l)with h|h
  .rw[s4 h]
  .grind
 obtain⟨L,u,g,k,b⟩:=f;have h:=W.x1 (l:=L) (n:=n) d aa (λp w=>by grind);have x:W.val (L.take (n-2))<18446744073709551616^(n-2):=by have:=W.iz (k.take (n-2));rw[jq aa]at this;exact this
 rw[g,b,b]at h;unfold sr;generalize l.getD (n-1) 0=o at*
 generalize l.getD (n-2) 0=a at*
 generalize W.val (L.take (n-2))=r at*
 generalize(18446744073709551616:Nat)^(n-2)=P at*
 have t:=vi (s:=s) aa;have hT:0<2^(64-s):=gE ai;have v:=kj a (2^(64-s));have e:=fD a hT;generalize 2^(64-s)=T at*
 generalize a/T=q at*
 generalize a%T=m at*
 refine⟨P*m+r,?_,?_⟩
 .grind
 .have:=eN P (show m+1<=T from e)
  grind
def kT(b c d e:Nat)(a:Bool):au:=[aC b,aC c,aC d,aC e,.bool a]
def CG(A B:Nat)(v:V):Prop:=∃c d a b e,v=.agg (kT c d a b e)/\c<18446744073709551616/\d<18446744073709551616/\a<18446744073709551616/\b<18446744073709551616/\(a≠0->1<=b/\∃f g,vH A B c d a b e f g)
variable{d:Nat}{m:Nat}{D:Nat}{O:Nat}{n:Bool}
def Eg{l i g j f s:Nat}(h:p0 d m D O l i g j f s n)(u:d<18446744073709551616):O<18446744073709551616/\g<18446744073709551616/\i<18446744073709551616:=by
 have k:=h.KB;have v:f<=d:=by
  have:=h.hF;have q:f<=j*f:=by rw[dy];exact tN k
  omega
 rcases h.ph with⟨a,b,c,o,e⟩|⟨a,b,c,p,w,x,r,t,_⟩
 .omega
 .have:p<=g*p:=by rw[dy];exact tN a
  omega
def aui(i p:Nat)(S:i<18446744073709551616)(V:p<=i)(Q:1<=i)(F:Fr)(H:ah)(R:b5)(b:Nat)(L:rd 7 F=aC i)(M:rd 8 F=aC p)(N:rd 9 F=.ptr b 0)(J:rd 10 F=aC 0)(K:rd 11 F=aC 1)(T:H.get b=an (kT 0 1 0 0 false) 0)
 (U:∀g B l e d o c a f s n,p0 i p l e d o c a f s n->l<18446744073709551616->rd 9 g=.ptr b 0->rd 4 g=rd 4 F->eZ H B b (kT l e o c n)->R (.exit 1) g B):bK (.loop (pc 249 5)) R F H:=by
 refine b8 (λk m t=>∃(l e d o c a f:Nat) (n:Bool),p0 i p l e d o c a f k n/\l<18446744073709551616/\rd 4 m=rd 4 F/\rd 7 m=aC f/\rd 8 m=aC k/\rd 9 m=.ptr b 0/\rd 10 m=aC d/\rd 11 m=aC a/\eZ H t b (kT l e o c n)) p ⟨0,1,0,0,0,1,i,false,p0.start V Q,ai,rfl,L,M,N,J,K,eZ.refl T⟩ ?_;rintro s m t ⟨l,e,d,o,c,a,f,n,j,Z,w,C,x,r,O,v,y⟩;rw[adG];have z:=y.at;have X:=j.small;have ad:=j.KB;have a5:=j.KA;have a1:f<=i:=by
  have:=j.hF;have h2:f<=a*f:=by rw[dy];exact tN ad
  omega
 have a4:=j.sf;have D:∀g:Fr,rd 9 g=.ptr b 0->rd 4 g=rd 4 F->R (.exit 1) g t:=λg h P=>U g t _ _ _ _ _ _ _ _ _ j Z h P y
 unfold kT at z;by_cases I:a<=s
 .have a6:=X.2 aa;have E:aE .u64 ((f:Int)-(s:Int))=((f-s:Nat):Int):=by rw[cz _ aa];omega
  have G:aE .u64 ((c:Int)+(a:Int))=((c+a:Nat):Int):=by rw[cz _ aa];omega
  by_cases c2:c+a<=f-s
  .have u:=j.step I aa;have ac:=u.KA;have Y:=u.small.1;have a3:¬((s:Nat):Int)=0:=aa;have ab:=(Eg j S).1;obtain⟨q,A⟩:∃q,q=f/s:=⟨_,rfl⟩;rw[<-A]at u ac Y;have a2:q<=f:=by rw[A];exact js _ _
   have ar:aE .u64 ((q:Nat):Int)=(q:Int):=cz _ aa;have wr:aE .u64 ((f%s:Nat):Int)=((f%s:Nat):Int):=cz _ ⟨w9 _,by have:=Nat.mod_le f s;omega⟩
   have am:aE .u64 ((q:Int)*(a:Int))=((q*a:Nat):Int):=by rw[<-fF];exact cz _ aa
   have wa:aE .u64 ((c:Int)+((q*a:Nat):Int))=((c+q*a:Nat):Int):=by rw[cz _ aa];omega
   have ap:aE .u64 ((q:Int)*(d:Int))=((q*d:Nat):Int):=by rw[<-fF];exact cz _ aa
   have al:aE .u64 ((e:Int)+((q*d:Nat):Int))=((e+q*d:Nat):Int):=by rw[cz _ aa];omega
   simp(disch:=omega)only[go_sem,adF,adE,adD,adx,adw,C,x,r,O,v,z,E,G,df,j5,nY,t_,z3,<-A,ar,am,wa,ap,al];have W:f%s<s:=fD _ aa;refine⟨f%s,W,e,d,e+q*d,c,a,c+q*a,s, !n,u,ab,?_,?_,?_,?_,?_,?_,?_⟩
   iterate 6 simp only[go_sem,w,r]
   .exact((((y.set _).set _).set _).set _).set _
  .simp(disch:=omega)only[go_sem,C,x,r,v,z,E,G,dt,df];refine D _ ?_ ?_
   iterate 2 simp only[go_sem,r,w]
 .simp(disch:=omega)only[go_sem,x,v,dt];refine D _ ?_ ?_
  iterate 2 simp only[go_sem,r,w]
variable{a:Nat}
theorem SM{y:Nat}(h:m<=63)(c:a*2^m<18446744073709551616)(f:y<18446744073709551616):a*2^m|||y/2^(64-m)=a*2^m+y/2^(64-m)/\a*2^m+y/2^(64-m)<18446744073709551616:=by
 have b:=HP (s:=64-m) (d:=y) aa f;rw[(aa:64-(64-m)=m)]at b;refine⟨?_,?_⟩
 .rw[<-Nat.shiftLeft_eq a m,<-Nat.shiftLeft_add_eq_or_of_lt b]
 .have d:=vi (s:=m) aa;have e:a+1<=2^(64-m):=by rw[d]at c;exact vP c
  have g:=ei (2^m) e
  grind
theorem alJ{B X:Nat}(h:B<=a)(c:a=X*d+D)(f:D<X)(e:B=X*m+O):m<=d:=by
 refine k4 λb=>?_
 have:=eN X (show d+1<=m from b)
 grind
variable{g:av}
theorem Q8(h:af g<=a):g.getD a 0=0:=b4
theorem auh(A B:Nat)(N:B<=A)(M:2<=af (az B))(la:af (az A)<1000000)(H:ah):dm 249 [bx (az A),bx (az B)] H λv K=>CG A B v/\K=H:=by
 refine rB (.f2 (eF _) (eF _)) (dD.mono (Q:=λv _=>CG A B v) (λv K h=>⟨v,.same v,?_,h⟩) ?_) H
 .obtain⟨D,E,G,I,x,rfl,_⟩:=h;exact .agg (.f5 .ii .ii .ii .ii .bb)
 have b0:af (az B)<=af (az A):=nu N;have L:A≠0:=λe=>by grind [k9,p5]
 have am:=Fh A L;have y:=g5 A;have z:=g5 B;have cb:=g7 A;have cd:=g7 B;have al:af (az B)=af (az A)->(az B).getD (af (az A)-1) 0<=(az A).getD (af (az A)-1) 0:=λe=>by
  have a8:B≠0:=λe=>by rw[e,k9]at M;simp at M
  obtain⟨r,e1,e2⟩:=ox A L;obtain⟨r',f1,a1⟩:=ox B a8;rw[e]at f1 a1;generalize(az A).getD (af (az A)-1) 0=t at*
  generalize(az B).getD (af (az A)-1) 0=t' at*
  generalize(18446744073709551616:Nat)^(af (az A)-1)=P at*
  refine k4 λb1=>?_
  have:=ei P (show t+1<=t' from b1)
  grind
 obtain⟨n,bD⟩:∃n,n=af (az A):=⟨_,rfl⟩;generalize az A=a at*
 generalize az B=b at*
 rw[<-bD]at b0 am al la;have X:2<=n:=aa;have S:=y.getD (n-1);have T:=y.getD (n-2);have c2:=z.getD (n-1);have U:=z.getD (n-2);obtain⟨g,Q,j⟩:=Bl am S;have V:=Bk _ S;obtain⟨s,hs⟩:∃s,s=64-fk (a.getD (n-1) 0):=⟨_,rfl⟩;rw[<-hs]at g Q j V;clear hs;obtain⟨α,k,ap⟩:=Rm (l:=a) (n:=n) (s:=s) g X aa y;obtain⟨β,l,ch⟩:=Rm (l:=b) (n:=n) (s:=s) g X aa z;rw[cb]at k;rw[cd]at l;have bc:=alJ N k ap l;obtain⟨Z,c⟩:=SM g j T;have a9:1<=sr a n s:=c5 (c5 ai Q) (qP _ _);have ba:a.getD (n-1) 0*2^s+a.getD (n-2) 0/2^(64-s)=sr a n s:=rfl;rw[ba]at Z c;have bi:aE .u64 ((s:Nat):Int)=(s:Int):=cz _ aa;have Y:ej s (h_ .u64)=s:=lM (aa:s<=64);have p:ej (64-s) (h_ .u64)=64-s:=lM (aa:64-s<=64);have m:aE .u64 ((64:Int)-(s:Int))=((64-s:Nat):Int):=by rw[cz _ aa];omega
 have i:aE .i64 ((n:Int)-1)=(n:Int)-1:=aK _ aa;have q:aE .i64 ((n:Int)-2)=(n:Int)-2:=aK _ aa;have u:((n:Int)-1).toNat=n-1:=aa;have w:((n:Int)-2).toNat=n-2:=aa;have b2:((a.getD (n-1) 0:Nat):Int)*((2^s:Nat):Int)=((a.getD (n-1) 0*2^s:Nat):Int):=by rw[fF]
 have ce:aE .u64 ((a.getD (n-1) 0*2^s:Nat):Int)=((a.getD (n-1) 0*2^s:Nat):Int):=cz _ aa;have bj:a.getD (n-2) 0/2^(64-s)<18446744073709551616:=fu (js _ _) T;have ab:=zI (x:=a.getD (n-1) 0*2^s) (y:=a.getD (n-2) 0/2^(64-s)) ⟨j,bj⟩;rw[Z]at ab;have C:∀F:Fr,rd 7 F=aC (sr a n s:Nat)->rd 8 F=aC (sr b n s:Nat)->rd 4 F=.ptr 5 0->∀H,H.ag=6->H.get 5=an [aC 0,aC 0,aC 0,aC 0,aR] 0->bK (pc 249 10) (gC [iC.cell 4 true 5] λv _=>CG A B v) F H:=by
  intro F f7 f8 f4 H W bs;simp(disch:=omega)only[go_sem,ady,adK,adJ,adI,W];refine aui (sr a n s) (sr b n s) c bc a9 _ _ _ 6 ?_ ?_ ?_ ?_ ?_ ?_ ?_
  iterate 5 simp only[go_sem,f7,f8]
  .simp only[go_sem];rfl
  intro F' J D E u2 G I v2 f t x d ca e3 g4 O;have a6:rd 4 F'=.ptr 5 0:=g4.trans (by simp only[go_sem,f4]);have ar:J.get 6=an (kT D E G I x) 0:=O.at;have ci:J.get 5=an [aC 0,aC 0,aC 0,aC 0,aR] 0:=by rw[O.get,ao ai];simp only[go_sem,W,bs]
  unfold kT at ar;rw[gb];simp(disch:=omega)only[go_sem,adH,e3,a6,ar,ci];exact⟨D,E,G,I,x,rfl,ca,(Eg d c).1,(Eg d c).2.2,(Eg d c).2.1,λh0=>⟨(by rcases d.ph with h|h<;>omega),d.pair h0 k ap l ch⟩⟩
 refine bg aoy ?_;simp(disch:=omega)only[go_sem,d249,adC,adB,<-bD,i,ir,u,eG];refine use V ?_;simp(disch:=omega)only[go_sem,adA,adz,i,q,ir,u,w,eG,bi,Y,p,m,b2,ce,ot,ab];by_cases bv:af b=n
 .have R:b.getD (n-1) 0*2^s<18446744073709551616:=fu (ei _ (al bv)) j;obtain⟨ad,c1⟩:=SM g R U;have a':b.getD (n-1) 0*2^s+b.getD (n-2) 0/2^(64-s)=sr b n s:=rfl;rw[a']at ad;have b':((b.getD (n-1) 0:Nat):Int)*((2^s:Nat):Int)=((b.getD (n-1) 0*2^s:Nat):Int):=by rw[fF]
  have cf:aE .u64 ((b.getD (n-1) 0*2^s:Nat):Int)=((b.getD (n-1) 0*2^s:Nat):Int):=cz _ aa;have bo:b.getD (n-2) 0/2^(64-s)<18446744073709551616:=fu (js _ _) U;have ac:=zI (x:=b.getD (n-1) 0*2^s) (y:=b.getD (n-2) 0/2^(64-s)) ⟨R,bo⟩;rw[ad]at ac;simp(disch:=omega)only[go_sem,G4,dt,i,q,ir,u,w,eG,Y,p,m,b',cf,ot,ac];refine C _ ?_ ?_ ?_ _ ?_ ?_
  iterate 5 simp only[go_sem]
 .have bd:b.getD (n-1) 0=0:=Q8 aa;have o:sr b n s=b.getD (n-2) 0/2^(64-s):=by unfold sr;rw[bd,j4,eW]
  by_cases c':af b=n-1
  .simp(disch:=omega)only[go_sem,G4,dt,df,i,q,ir,w,eG,p,m,ot];refine C _ ?_ ?_ ?_ _ ?_ ?_
   iterate 5 simp only[go_sem,o]
  .have be:b.getD (n-2) 0=0:=Q8 aa;rw[be,Nat.zero_div]at o;simp(disch:=omega)only[go_sem,G4,df,i];refine C _ ?_ ?_ ?_ _ ?_ ?_
   .simp only[go_sem]
   .simp only[go_sem,o];rfl
   iterate 3 simp only[go_sem]
def aqZ(x y c:Nat)(b:x<18446744073709551616)(d:y<18446744073709551616)(h:c<18446744073709551616):bm 311 [aC x,aC y,aC c] (.aH [aC (((x*y+c)%18446744073709551616:Nat):Int),aC (((x*y+c)/18446744073709551616:Nat):Int)]):=by
 refine dM (.f3 .ii .ii .ii) (.aH (.f2 .ii .ii)) (bg aoV ?_);have i:=zG b d;have f:=Bo x y b d;generalize x*y=p at*
 have a:=xx (a:=p%18446744073709551616) (b:=c) (c:=0) aa;rw[dG,kh]at a;have e:(p%18446744073709551616+c)%18446744073709551616=(p+c)%18446744073709551616:=aa;rw[e]at a;have g:aE .u64 (((p/18446744073709551616:Nat):Int)+(((p%18446744073709551616+c)/18446744073709551616:Nat):Int))=(((p+c)/18446744073709551616:Nat):Int):=by rw[cz _ aa];omega
 simp(disch:=omega)only[go_sem,d311,afp];refine use f ?_;simp(disch:=omega)only[go_sem,afo,afn,a,g]
theorem En{P X x:Nat}(h:a+P*d=X*m)(b:D+18446744073709551616*O=x*m+d):a+P*D+P*18446744073709551616*O=(X+P*x)*m:=by grind
variable{b:ah}{c:au}
def dB.other{b' g':Nat}{cs':au}(h:dB b a d c)(k:a≠b')(l:a≠g')(m:d≠b')(n:d≠g'):dB (ah.wr b b' g' cs') a d c:=by
 have g:∀y,y≠b'->y≠g'->(ah.wr b b' g' cs').get y=b.get y:=λy i j=>by unfold ah.wr;rw[ah.aT,ao (λe=>j e.symm),ah.aT,ao (λe=>i e.symm)]
 obtain⟨f,o,p⟩:=h.bV;exact⟨by rw[g _ k l];exact h.row,⟨f,by rw[g _ m n];exact o,p⟩,h.ne⟩
def dB.written(h:dB b a d c)(e:au):dB (ah.wr b a d e) a d e:=((nU.refl h).wr e).ob
theorem qi(f:m≠a)(g:m≠d):(ah.wr b a d c).get m=b.get m:=by unfold ah.wr;rw[ah.aT,ao (λe=>g e.symm),ah.aT,ao (λe=>f e.symm)]
structure Cw (b g b' g' n:Nat):Prop where
 h1:b≠b'
 h2:b≠g'
 h3:g≠b'
 h4:g≠g'
 lb:b<n
 ob:g<n
 lb':b'<n
 zx:g'<n
structure w6 (KO KQ:List Nat) (i cu u1 v0 v1:Nat) (j_:Bool) (ad bd:List Nat) (Mu Mv Mw Mx Gj ln:Nat):Prop where
 la:af ad=i
 lb:af bd=i
 Ja:W.aG ad
 Bx:W.aG bd
 hP:Mu<18446744073709551616
 hQ:Mv<18446744073709551616
 hR:Mw<18446744073709551616
 hT:Mx<18446744073709551616
 Ri:Gj<=1
 Rn:ln<=1
 eq:∃FI FM FN FP,FI+18446744073709551616^i*Mu=W.val (KO.take i)*cu/\FM+18446744073709551616^i*Mv=W.val (KQ.take i)*v0/\FN+18446744073709551616^i*Mw=W.val (KQ.take i)*v1/\FP+18446744073709551616^i*Mx=W.val (KO.take i)*u1/\
  (j_=false->FM+18446744073709551616^i*Gj=W.val ad+FI/\FP+18446744073709551616^i*ln=W.val bd+FN)/\(j_=true->FI+18446744073709551616^i*Gj=W.val ad+FM/\FN+18446744073709551616^i*ln=W.val bd+FP)
theorem sub_eq{P b c x y:Nat}(f:d+P*D=x)(g:m+P*O=y)(i:y=x+a)(j:m+P*b=c+d)(k:a<P)(l:c<P):c=a:=by
 have e:a+P*(D+b)=c+P*O:=by rw[dL];omega
 rcases Nat.lt_trichotomy (D+b) O with h|h|h
 .have:=eN P (show D+b+1<=O from h)
  grind
 .rw[h]at e;omega
 .have:=eN P (show O+1<=D+b from h)
  grind
theorem w6.done{r:av}{s t:av}{v w x y u J A B b e:Nat}(h:w6 g r a d m D O n s t v w x y u J)(G:W.val (g.take a)=A)(H:W.val (r.take a)=B)(P:A<18446744073709551616^a)(c:vH A B d m D O n b e)(I:1<=O):W.val s=b/\W.val t=e:=by
 obtain⟨K,L,M,N,f,i,j,k,z,C⟩:=h.eq;have Q:b<=A:=by
  have:=c.ba;have S:b<=O*b:=by rw[dy];exact tN I
  omega
 have R:e<=b:=c.le;have p:=W.iz h.Ja;have q:=W.iz h.Bx;rw[h.la]at p;rw[h.lb]at q;rw[G]at f k;rw[H]at i j;cases n with
 |false=>
  obtain⟨E,F⟩:=c.ev rfl;obtain⟨l,o⟩:=z rfl;refine⟨sub_eq f i ?_ l aa p,sub_eq j k ?_ o aa q⟩
  .grind
  grind
 |true=>
  obtain⟨E,F⟩:=c.Jc rfl;obtain⟨l,o⟩:=C rfl;refine⟨sub_eq i f ?_ l aa p,sub_eq k j ?_ o aa q⟩
  .grind
  grind
def w6.step{e:av}{f i:av}{A B C E l z x y p q r t s u v w j k b c:Nat}(h:w6 g e a d m D O n f i A B C E l z)(hi:a<g.length)(hi':a<e.length)(I:g.getD a 0=x)(J:e.getD a 0=y)
 (ae:p+18446744073709551616*s=x*d+A) (eQ:q+18446744073709551616*u=y*D+B) (am:r+18446744073709551616*v=y*O+C) (ap:t+18446744073709551616*w=x*m+E) (S:s<18446744073709551616) (T:u<18446744073709551616) (U:v<18446744073709551616) (V:w<18446744073709551616) (X:j<=1) (Y:k<=1) (k1:b<18446744073709551616) (k2:c<18446744073709551616)
 (H:n=false->q+18446744073709551616*j=b+p+l/\t+18446744073709551616*k=c+r+z) (K:n=true->p+18446744073709551616*j=b+q+l/\r+18446744073709551616*k=c+t+z):
 w6 g e (a+1) d m D O n (f++[b]) (i++[c]) s u v w j k:=by
 obtain⟨N,P,Q,R,Z,e2,ac,ad,F,G⟩:=h.eq;have L:W.val (f++[b])=W.val f+18446744073709551616^a*b:=by rw[W.gi,h.la];simp[W.val]
 have M:W.val (i++[c])=W.val i+18446744073709551616^a*c:=by rw[W.gi,h.lb];simp[W.val]
 refine⟨by simp[h.la],by simp[h.lb],h.Ja.app (.mk k1 W.aG.nil),h.Bx.app (.mk k2 W.aG.nil),S,T,U,V,X,Y,N+18446744073709551616^a*p,P+18446744073709551616^a*q,Q+18446744073709551616^a*r,R+18446744073709551616^a*t,?_,?_,?_,?_,λo=>?_,λo=>?_⟩
 .rw[mO hi,I,dX];exact En Z ae
 .rw[mO hi',J,dX];exact En e2 eQ
 .rw[mO hi',J,dX];exact En ac am
 .rw[mO hi,I,dX];exact En ad ap
 .rw[L,M,dX];exact⟨AF (F o).1 (H o).1,AF (F o).2 (H o).2⟩
 .rw[L,M,dX];exact⟨AF (G o).1 (K o).1,AF (G o).2 (K o).2⟩
def E9(e:a<18446744073709551616)(f:d<18446744073709551616)(c:m<=1):∃b z,b<18446744073709551616/\z<=1/\a+18446744073709551616*z=b+d+m/\cx [aC a,aC d,aC m]=some (.val (.aH [aC (b:Nat),aC (z:Nat)])):=⟨_,_,fD _ ai,by split<;>omega,sub_one e f c,E_ c⟩
def Bp(x y c:Nat)(a:x<18446744073709551616)(b:y<18446744073709551616)(e:c<18446744073709551616):∃d z,d<18446744073709551616/\z<18446744073709551616/\d+18446744073709551616*z=x*y+c/\bm 311 [aC x,aC y,aC c] (.aH [aC (d:Nat),aC (z:Nat)]):=by have f:=zG a b;exact⟨_,_,fD _ ai,aa,aa,aqZ x y c a b e⟩
theorem VV(a b:av)(n z A B C:Nat)(J:Bool)(et:W.aG a)(ev:W.aG b)(fi:n<=a.length)(fn:n<=b.length)(hn:n<1000000)(l0:z<18446744073709551616)(l1:A<18446744073709551616)(eq:B<18446744073709551616)(m1:C<18446744073709551616)(ba l bb o K:Nat)(F:Fr)(H:ah)(R:b5)(d7:dB H ba l (aQ a))(d8:dB H bb o (aQ b))(e:Cw ba l bb o K)(hs:H.get K=an (kT z A B C J) 0)
 (e1:rd 1 F=.slice ba 0 n (.grown 1)) (e2:rd 2 F=.slice bb 0 n (.grown 1)) (dC:rd 3 F=.ptr K 0) (dE:rd 6 F=aC 0) (dT:rd 7 F=aC 0) (d0:rd 8 F=aC 0) (d2:rd 9 F=aC 0) (dl:rd 10 F=aC 0) (dp:rd 11 F=aC 0) (dq:rd 19 F=.slice ba 0 n (.grown 1)) (du:rd 20 F=aj n) (dv:rd 21 F=aj 0)
 (fb:∀F' L c g D E G I M O,w6 a b n z A B C J c g D E G I M O->dB L ba l (aQ (c++a.drop n))->dB L bb o (aQ (g++b.drop n))->L.ag=H.ag->(∀y,y≠ba->y≠l->y≠bb->y≠o->L.get y=H.get y)->R (.exit 0) F' L):bK (.loop (pc 251 3)) R F H:=by
 refine b8 (λk j f=>∃(i:Nat) (c g:av) (D E G I M O:Nat),k=n-i/\i<=n/\rd 1 j=.slice ba 0 n (.grown 1)/\rd 2 j=.slice bb 0 n (.grown 1)/\rd 3 j=.ptr K 0/\rd 6 j=aC D/\rd 7 j=aC E/\rd 8 j=aC G/\rd 9 j=aC I/\rd 10 j=aC M/\rd 11 j=aC O/\rd 19 j=.slice ba 0 n (.grown 1)/\rd 20 j=aj n/\rd 21 j=aj i/\
  w6 a b i z A B C J c g D E G I M O/\dB f ba l (aQ (c++a.drop i))/\dB f bb o (aQ (g++b.drop i))/\f.get K=an (kT z A B C J) 0/\f.ag=H.ag/\∀y,y≠ba->y≠l->y≠bb->y≠o->f.get y=H.get y) n
  ⟨0,[],[],0,0,0,0,0,0,rfl,cj _,e1,e2,dC,dE,dT,d0,d2,dl,dp,dq,du,dv,⟨rfl,rfl,W.aG.nil,W.aG.nil,ai,ai,ai,ai,ai,ai,0,0,0,0,by simp[W.val],by simp[W.val],by simp[W.val],by simp[W.val],λ_=>by simp[W.val],λ_=>by simp[W.val]⟩,d7,d8,hs,rfl,λ_ _ _ _ _=>rfl⟩ ?_
 rintro k j f ⟨i,c,g,D,E,G,I,M,O,rfl,hi,U,N,u,f6,f7,f8,f9,bj,bo,am,X,Y,m,Z,ab,v,cb,b0⟩;rw[adM];by_cases fd:i<n
 .have b1:=m.la;have b2:=m.lb;have bs:=tC (l:=a) (i:=i) aa;have bv:=tC (l:=b) (i:=i) aa;have hx:=et.getD i;have hy:=ev.getD i;obtain⟨x,ex⟩:∃x,a.getD i 0=x:=⟨_,rfl⟩;obtain⟨y,al⟩:∃x,b.getD i 0=x:=⟨_,rfl⟩;rw[ex]at bs hx;rw[al]at bv hy;rw[bs]at Z;rw[bv]at ab;have d9:=so (es:=a.drop (i+1)) (e:=x) b1;have d':=so (es:=b.drop (i+1)) (e:=y) b2;have b':i<af (c++x::a.drop (i+1)):=e7;have ca:i<af (g++y::b.drop (i+1)):=e7;have eb:jd false 1 [.ptr ba i] f=some (aC x):=by rw[u7 Z,eG b',d9]
  have ed:jd false 1 [.ptr bb i] f=some (aC y):=by rw[u7 ab,eG ca,d']
  have cd:∀d:Nat,qB 1 [.ptr ba i,aC d] f=some (V.undef,ah.wr f ba l (aQ (c++d::a.drop (i+1)))):=λd=>by rw[z0 Z (by rw[fo];exact b'),lP,nH b1]
  have ce:∀d s:Nat,qB 1 [.ptr bb i,aC s] (ah.wr f ba l (aQ (c++d::a.drop (i+1))))=some (V.undef,ah.wr (ah.wr f ba l (aQ (c++d::a.drop (i+1)))) bb o (aQ (g++s::b.drop (i+1)))):=λd s=>by rw[z0 (ab.other e.h1.symm e.h3.symm e.h2.symm e.h4.symm) (by rw[fo];exact ca),lP,nH b2]
  have next:∀d s:Nat,dB (ah.wr (ah.wr f ba l (aQ (c++d::a.drop (i+1)))) bb o (aQ (g++s::b.drop (i+1)))) ba l (aQ (c++[d]++a.drop (i+1)))/\dB (ah.wr (ah.wr f ba l (aQ (c++d::a.drop (i+1)))) bb o (aQ (g++s::b.drop (i+1)))) bb o (aQ (g++[s]++b.drop (i+1)))/\
   (ah.wr (ah.wr f ba l (aQ (c++d::a.drop (i+1)))) bb o (aQ (g++s::b.drop (i+1)))).get K=an (kT z A B C J) 0:=λd s=>by
   have k1:=e.lb;have k2:=e.ob;have bX:=e.lb';have ae:=e.zx;refine⟨?_,?_,?_⟩
   .rw[gX];exact(Z.written _).other e.h1 e.h2 e.h3 e.h4
   .rw[gX];exact(ab.other e.h1.symm e.h3.symm e.h2.symm e.h4.symm).written _
   .rw[qi aa aa,qi aa aa];exact v
  obtain⟨p,bc,p1,p2,p3,eQ⟩:=Bp x z D hx l0 m.hP;obtain⟨q,bd,q1,cp,cs,e0⟩:=Bp y B E hy eq m.hQ;obtain⟨r,be,r1,r2,c2,e'⟩:=Bp y C G hy m1 m.hR;obtain⟨t,bi,t1,t2,t3,t4⟩:=Bp x A I hx l1 m.hT;unfold kT at v;simp(disch:=omega)only[go_sem,Od,adL,N,u,f6,am,X,Y,dt,cH,cg,eb,ed,v];refine use eQ ?_;simp(disch:=omega)only[go_sem,u,f7,v];refine use e0 ?_;simp(disch:=omega)only[go_sem,u,f8,v];refine use e' ?_;simp(disch:=omega)only[go_sem,u,f9,v];refine use t4 ?_;cases J with
  |false=>
   obtain⟨d1,a9,k1,k2,bX,ae⟩:=E9 q1 p1 m.Ri;obtain⟨w,a',j1,j2,a4,a5⟩:=E9 t1 r1 m.Rn;have aw:=m.step aa aa ex al p3 cs c2 t3 p2 cp r2 t2 k2 j2 k1 j1 (λ_=>⟨bX,a4⟩) (λh=>by cases h);obtain⟨n1,n2,a8⟩:=next d1 w
   have ap:=cd d1;have ar:=ce d1 w;simp(disch:=omega)only[go_sem,Oc,U,N,u,bj,bo,Y,v,ae,a5,cH,cg,ap,ar,aK];refine⟨n-(i+1),aa,i+1,c++[d1],g++[w],bc,bd,be,bi,a9,a',rfl,aa,?_,?_,?_,?_,?_,?_,?_,?_,?_,?_,?_,?_,aw,n1,n2,a8,cb,λy P Q S T=>(qi S T).trans ((qi P Q).trans (b0 y P Q S T))⟩
   iterate 11 simp only[go_sem,U,N,u,am,X]
   .simp only[go_sem];rfl
  |true=>
   obtain⟨d1,a9,k1,k2,bX,ae⟩:=E9 p1 q1 m.Ri;obtain⟨w,a',j1,j2,a4,a5⟩:=E9 r1 t1 m.Rn;have aw:=m.step aa aa ex al p3 cs c2 t3 p2 cp r2 t2 k2 j2 k1 j1 (λh=>by cases h) (λ_=>⟨bX,a4⟩);obtain⟨n1,n2,a8⟩:=next d1 w
   have ap:=cd d1;have ar:=ce d1 w;simp(disch:=omega)only[go_sem,Oc,U,N,u,bj,bo,Y,v,ae,a5,cH,cg,ap,ar,aK];refine⟨n-(i+1),aa,i+1,c++[d1],g++[w],bc,bd,be,bi,a9,a',rfl,aa,?_,?_,?_,?_,?_,?_,?_,?_,?_,?_,?_,?_,aw,n1,n2,a8,cb,λy P Q S T=>(qi S T).trans ((qi P Q).trans (b0 y P Q S T))⟩
   iterate 11 simp only[go_sem,U,N,u,am,X]
   .simp only[go_sem];rfl
 .have ea:i=n:=aa;subst ea;simp(disch:=omega)only[go_sem,Od,X,Y,df]
  grind
def VU(c d:av)(n j k l a:Nat)(r:Bool)(A B v w:Nat)(E:W.aG c)(al:W.aG d)(z:n<=c.length)(T:n<=d.length)(S:n<1000000)(x:W.val (c.take n)=A)(N:W.val (d.take n)=B)(O:vH A B j k l a r v w)(V:1<=a)(l0:j<18446744073709551616)(l1:k<18446744073709551616)(ad:l<18446744073709551616)(m1:a<18446744073709551616)(ba m bb o:Nat)(H:ah)(P:dB H ba m (aQ c))(Q:dB H bb o (aQ d))(q:Cw ba m bb o H.ag):
 dm 251 [.agg (kT j k l a r),.slice ba 0 n (.grown 1),.slice bb 0 n (.grown 1)] H λ_ s=>∃e i,af e=n/\af i=n/\W.aG e/\W.aG i/\W.val e=v/\W.val i=w/\dB s ba m (aQ (e++c.drop n))/\dB s bb o (aQ (i++d.drop n))/\H.ag<=s.ag/\∀y,y<H.ag->y≠ba->y≠m->y≠bb->y≠o->s.get y=H.get y:=by
 have M:A<18446744073709551616^n:=by have:=W.iz (E.take n);rw[jq z,x]at this;exact this
 refine bg aoz ?_;simp(disch:=omega)only[go_sem,d251,adQ,adP,adO,adN];have X:=q.lb;have Y:=q.ob;have bX:=q.lb';have Z:=q.zx;have u:∀ {y:Nat},y<H.ag->(H.push (an (kT j k l a r) 0)).get y=H.get y:=λ{y} C=>by simp(disch:=omega)only[go_sem,ao]
 have D:∀ {b g:Nat}{t:au},dB H b g t->b<H.ag->g<H.ag->dB (H.push (an (kT j k l a r) 0)) b g t:=λ{b g t} h K L=>by obtain⟨f,F,G⟩:=h.bV;exact⟨by rw[u K];exact h.row,⟨f,by rw[u L];exact F,G⟩,h.ne⟩
 refine VV c d n j k l a r E al z T S l0 l1 ad m1 ba m bb o H.ag _ _ _ (D P X Y) (D Q bX Z) q ?_ ?_ ?_ ?_ ?_ ?_ ?_ ?_ ?_ ?_ ?_ ?_ ?_ ?_
 iterate 13 simp only[go_sem]
 intro F' H' e i a5 a6 a7 a8 a4 ln p I J U R;obtain⟨r1,r2⟩:=p.done x N M O V;simp only[go_sem];exact⟨e,i,p.la,p.lb,p.Ja,p.Bx,r1,r2,I,J,by rw[U];exact s9 _,λy C w1 w2 w3 a1=>(R y w1 w2 w3 a1).trans (u C)⟩
def dB.keep{H':ah}(h:dB b a d c)(e:H'.get a=b.get a)(g:H'.get d=b.get d):dB H' a d c:=by obtain⟨f,i,j⟩:=h.bV;exact⟨e.trans h.row,⟨f,g.trans i,j⟩,h.ne⟩
variable{j:Fr}{x:cq}{s:cm}
def P4{l:av}(h:dB b a d (aQ g))(r:g.take m=l)(D:af l=m)(K:m<1000000)(w:a<b.ag)(A:d<b.ag)(i:Nat)
 (B:∀k,dB k (b.ag+1) d (aQ (l++[i]))->(∀y,y<b.ag->y≠d->k.get y=b.get y)->k.ag=b.ag+2->s (put j x (.slice (b.ag+1) 0 (m+1) (.grown 1))) k):
 gW x s j (fU 1 8 [.slice a 0 m (.grown 1),.slice b.ag 0 1 (.known 1)] (b.push (an [aC i] 0))):=by
 obtain⟨c,n⟩:∃c,c=b.push (an [aC i] 0):=⟨_,rfl⟩;have p:∀y,y<b.ag->c.get y=b.get y:=λy t=>by rw[n,ah.bl,ao aa]
 have E:c.get b.ag=an [aC i] 0:=by rw[n,ah.bl,ay rfl]
 have o:dB c a d (aQ g):=h.keep (p a w) (p d A);have q:c.ag=b.ag+1:=by rw[n];rfl
 rw[<-n];have C:c.dz a 0 (m*1)=some (aQ l):=by rw[eD,o.dz (by have:=congrArg af r;rw[e8,D]at this;omega),r]
 have z:eu c 1 1 (.slice b.ag 0 1 (.known 1))=some [aC i]:=by show c.dz b.ag 0 (1*1)=_;rw[fO E,dQ];rfl
 obtain⟨f,H,L⟩:=o.bV;have v:fU 1 8 [.slice a 0 m (.grown 1),.slice b.ag 0 1 (.known 1)] c=some (.slice c.ag 0 (m+1) (.grown 1),(c.push (an (aQ l++[aC i]) d)).set d (.bV c.ag c.ag)):=by show aq (some 1) (λu=>aq (eu c 1 u (.slice b.ag 0 1 (.known 1))) λI=>ku 1 8 (.slice a 0 m (.grown 1)) u I c)=_;show aq (eu c 1 1 (.slice b.ag 0 1 (.known 1))) _=_;rw[z];show aX (jx (m+1) 8) (aX (and (bt 1 1) (dI [V.int .u64 (i:Int)])) (aq (c.dz a 0 (m*1)) λJ=>oJ c 1 a (m+1) (dJ J [V.int .u64 (i:Int)])))=_;rw[q5 ⟨aa,aa⟩,C];show oJ c 1 a (m+1) (dJ (aQ l) [V.int .u64 (i:Int)])=_;unfold oJ;rw[o.row];show dU.casesOn (motive:=λ_=>Option (V×ah)) (c.get d) _ _ _ _=_;rw[H];show aX (and (bt a a) (!(fN d))) _=_;rw[show bt a a=true from uA a,sv o.ne,iW];rfl
 rw[v];have F:aQ l++[V.int .u64 (i:Int)]=aQ (l++[i]):=by rw[Ad];rfl
 rw[F,q];refine B _ ⟨?_,⟨b.ag+1,?_,aJ _⟩,h.ne⟩ (λy t G=>?_) ?_
 .rw[ah.aT,ao aa,ah.bl,ay q]
 .rw[ah.aT,ay rfl]
 .rw[ah.aT,ao (λe=>G e.symm),ah.bl,ao aa];exact p y t
 .show c.ag+1=_;rw[q]
def ak7(a n ba bb e:Nat)(M l:av)(hn:af l=n)(E:M.take n=l)(T:W.aG M)(I:M.length<1000000)(Q:n<=a)(X:a<1000000)(F:Fr)(H:ah)(R:b5)(A:rd 5 F=.slice ba 0 a (.grown 1))(B:rd 6 F=.slice bb 0 n (.grown 1))(C:dB H bb e (aQ M))(K:bb<H.ag)(V:e<H.ag)
 (J:∀o g h j,(∀t,t<10->t≠6->rd t o=rd t F)->rd 6 o=.slice h 0 a (.grown 1)->j.take a=l++aZ (a-n) 0->W.aG j->j.length<1000000->dB g h e (aQ j)->(∀y,y<H.ag->y≠e->g.get y=H.get y)->H.ag<=g.ag->h<g.ag->(h=bb\/H.ag<=h)->R (.exit 2) o g):bK (.loop (pc 188 1)) R F H:=by
 refine b8 (λk p c=>∃(m b:Nat) (d:av),k=a-m/\n<=m/\m<=a/\(∀t,t<10->t≠6->rd t p=rd t F)/\rd 6 p=.slice b 0 m (.grown 1)/\d.take m=l++aZ (m-n) 0/\W.aG d/\d.length<1000000/\dB c b e (aQ d)/\(∀y,y<H.ag->y≠e->c.get y=H.get y)/\H.ag<=c.ag/\b<c.ag/\(b=bb\/H.ag<=b)) (a-n)
  ⟨n,bb,M,rfl,aJ _,Q,λ_ _ _=>rfl,B,by rw[nQ,qL,hU];exact E,T,I,C,λ_ _ _=>rfl,aJ _,K,.inl rfl⟩ ?_
 rintro k p c ⟨m,b,d,rfl,ad,Z,r,q,s,z,G,v,x,S,w,L⟩;have u:=(r 5 ai ai).trans A;rw[ab4];by_cases Y:m<a
 .simp(disch:=omega)only[go_sem,ab3,u,q,dt];refine P4 v s e7 aa w aa 0 ?_;intro U D N ac;simp(disch:=omega)only[go_sem];have O:(l++aZ (m-n) 0++[0])=l++aZ (m+1-n) 0:=by rw[(aa:m+1-n=m-n+1),List.replicate_succ',gX]
  refine⟨a-(m+1),aa,m+1,c.ag+1,_,rfl,aa,aa,λt i f=>?_,?_,?_,?_,?_,D,λy i f=>(N y aa f).trans (x y i f),aa,aa,.inr aa⟩
  .simp(disch:=omega)only[cX];exact r t i f
  .simp only[go_sem]
  .rw[O,dr e7]
  .rw[<-s];exact(z.take _).app (.mk ai W.aG.nil)
  .simp;omega
 .have P:m=a:=aa;subst P;simp(disch:=omega)only[go_sem,u,q,df];refine J _ _ b d (λt i f=>?_) ?_ s z G v x S w L
  .simp(disch:=omega)only[cX];exact r t i f
  .simp only[go_sem,q]
def aub(s:Nat)(e:s<=63)(H:ah):dm 363 [bx [],aC s] H λv a=>v=.aA/\a=H:=by
 refine bg IL ?_;have b:mP (s:Int) 64=0:=by show(((s/64:Nat)):Int)=0;omega
 have c:aE .u64 (0:Int)=0:=cz _ ai;have d:¬(64:Int)=0:=ai;have hl:((af ([]:av):Nat):Int)=0:=rfl;simp(disch:=omega)only[go_sem,d363,Dp,j5,b,c,hl,df];exact⟨trivial,trivial⟩
def Xt(H:ah):dm 248 [.aA] H λv a=>v=.aA/\a=H:=by refine bg RD ?_;have b:pI false (.slice 166) [.aA,.aA]=some (.val cY):=rfl;simp only[go_sem,d248,Ob,b];exact⟨trivial,trivial⟩
def Xv(l n:av)(h:0<af l/\af l<=1000000)(b:Nat)(c:Cap)(H:ah)(d:H.get b=an (aQ (l++n)) 0):dm 248 [.slice b 0 (af l) c] H λv a=>v=.slice (H.ag+1) 0 (af l) (.grown 1)/\dB a (H.ag+1) (H.ag+2) (aQ l)/\a.ag=H.ag+3/\∀y,y<H.ag->y≠b->a.get y=H.get y:=by
 have j:bS H (H.set b .none) (.slice b 0 (af l) c) (bx l):=by refine .row (m:=af l) (cs:=aQ l) ?_ h.1 jE (dn.refl _);rw[fO d,dQ,fB,ay (by rw[fo];simp),Ad,Am (by rw[fo];exact aJ _),dr (by rw[fo];exact aJ _)]
 refine(MC d ⟨0,_,_,fj.2 rfl⟩ (.f1 j) (AJ l h (H.set b .none))).mono ?_;rintro _ a ⟨rfl,f,g,i⟩;refine⟨rfl,f,g,λy k m=>(i y k).trans ?_⟩;rw[ah.aT,ao (λe=>m e.symm)]
def aiY(m n:Nat)(k:n≠0)(G:2<=af (az n))(O:¬m<n)(a6:m%n=0)(lm:af (az m)<100000)(ln:af (az n)<100000)(N:Nat):dm 310 [bx (az m),bx (az n)] (ah.zero N) λv _=>∃q,v=.aH [q,.aA]:=by
 refine bg IK ?_;have h1:af (az n)≠1:=aa;have a2:=(j7 n).2 k;simp(disch:=omega)only[go_sem,d310,Hv];refine use (xE m n aa aa) ?_;have bo:¬fW (m:Int) (n:Int)<0:=by
  rcases Nat.lt_or_eq_of_le (k4 O)with h|h
  .rw[r_ aa];decide
  .rw[C8 aa];decide
 have z:af (az n)<=af (az m):=nu (k4 O);obtain⟨D,f⟩:∃t,t=(az n).getD (af (az n)-1) 0:=⟨_,rfl⟩;have S:=Fh n k;have B:=(g5 n).getD (af (az n)-1);rw[<-f]at S B;obtain⟨e,K,w⟩:=Bl (y:=D) S B;have P:=Bk D B;obtain⟨s,Q⟩:∃s,s=64-fk D:=⟨_,rfl⟩;rw[<-Q]at e K w P;clear Q;have o:0<2^s:=gE ai;have x:=Er k e (by rw[<-f];exact w);have y:=Bv k e (by rw[<-f];exact K) (by rw[<-f];exact w);have a0:aE .u64 ((s:Nat):Int)=(s:Int):=cz _ aa;have T:aE .i64 ((af (az n):Int)-1)=(af (az n):Int)-1:=aK _ aa;have R:((af (az n):Int)-1).toNat=af (az n)-1:=aa;obtain⟨c,i⟩:∃l,l=af (az m):=⟨_,rfl⟩;obtain⟨l,F⟩:∃l,l=af (az n):=⟨_,rfl⟩;rw[<-i]at z lm;rw[<-F]at a2 ln h1 G z f x y T R;have H:af (az (m*2^s))<=c+1:=by
  refine xL ?_;have a:=pG m;rw[<-i]at a;have b:2^s<=18446744073709551616:=by rw[vi (s:=s) aa];exact yI _ (gE ai)
  rw[dX];exact fy (qQ a o) (eN _ b)
 simp(disch:=omega)only[go_sem,Hu,Ht,df,<-F,T,ir,R,eG,<-f];refine use P ?_;simp(disch:=omega)only[go_sem,Hs,a0];refine use (zT n s e aa) ?_;have a':aE .i64 ((c:Int)+1)=(c:Int)+1:=aK _ aa;have a9:((c:Int)+1).toNat=c+1:=aa;simp(disch:=omega)only[go_sem,Hr,Hq,<-i,a',iG,a9,qv];refine use (zT m s e aa) ?_;simp(disch:=omega)only[go_sem];refine DB (cs:=aQ (aZ (c+1) 0)) eJ H (by rw[fo];simp) ?_;obtain⟨d,g⟩:∃X,X=az (m*2^s)++aZ (c+1-af (az (m*2^s))) 0:=⟨_,rfl⟩;have I:aQ (az (m*2^s))++(aQ (aZ (c+1) 0)).drop (af (az (m*2^s)))=aQ d:=by rw[g,Ad];congr 1;rw[aQ,<-List.map_drop,xb];rfl
 have be:W.aG d:=by rw[g];exact(g5 _).app (wI _)
 have aw:d.length=c+1:=by rw[g];simp;omega
 have J:W.val d=m*2^s:=by rw[g,W.gi,vv,g7,gj,dG]
 rw[I];clear I g H;obtain⟨j,ab⟩:∃j,c+1-l=j:=⟨_,rfl⟩;have ba:aE .i64 ((c:Int)-(l:Int))=(j:Int)-1:=by rw[aK _ aa];omega
 have bb:aE .i64 ((j:Int)-1+1)=(j:Int):=by rw[aK _ aa];omega
 simp(disch:=omega)only[go_sem,Hy,Hx,<-i,ba,bb,iG,qv,cg];have ap:W.val (d.drop j)<W.val (az (n*2^s)):=by have U:=W.rL d j aa;rw[J]at U;have a:=pG m;rw[<-i,(aa:c=j+(l-1)),iB]at a;have b:=qQ a o;obtain⟨r,E,_⟩:=ox (n*2^s) (xj k aa);rw[x]at E;refine Kh b U ?_;rw[g7,E];have al:2^s<=9223372036854775808:=c5 (iI ai e) ai;have Z:=ei (18446744073709551616^(l-1)) (c5 al y);rw[dy];exact c5 Z (qP _ _)
 refine HO d (az (n*2^s)) l c j be (g5 _) aw x G ab z aa y N (N+1) aa _ _ _ ?_ ?_ ?_ ?_ ?_ ap ?_ ?_ ?_
 iterate 5 simp only[go_sem]
 .simp only[go_sem];rw[ao aa]
 .simp only[go_sem]
 intro p Y r V u hr bj bi a5 C A a1 L bs;have h9:rd 9 p=aC s:=(u 9 ai).trans eJ;have ad:rd 11 p=.slice N 0 (c+1) (.known (c+1)):=(u 11 ai).trans eJ;have ae:rd 12 p=.slice (N+1) 0 j (.known j):=(u 12 ai).trans eJ;rw[gb];rw[J,g7]at C;rw[g7]at A;have ar:0<n*2^s:=s_ aa o;have hq:W.val V=m/n:=by rw[<-Nat.mul_div_mul_right m n o,<-C,dy,Nat.mul_add_div ar,mw A,dG]
 have a7:W.val r=m%n*2^s:=by rw[<-uD,<-C,dy,Nat.mul_add_mod,jR A]
 simp(disch:=omega)only[go_sem,Hw,ae];refine kV (sQ V aa) L ⟨0,_,_,fj.2 rfl⟩ (.f1 (sn L jE a5)) ?_;simp(disch:=omega)only[go_sem,ad];have M:(Y.set (N+1) .none).get N=an (aQ (r++aZ j 0)) 0:=by rw[ah.aT,ao aa];exact a1
 have a3:af (r++aZ j 0)=c+1:=e7;refine kV (sQ (r++aZ j 0) aa) M ⟨0,_,_,fj.2 rfl⟩ (.f1 (sn M jE a3)) ?_;have a8:W.trim (r++aZ j 0)=az (m%n*2^s):=by rw[nI (bj.app (wI _)),W.gi,vv,gj,dG,a7]
 rw[a8,nI bi,hq];have b0:af (az (m%n*2^s))<100000:=by have:=nu (m:=m%n*2^s) (n:=n*2^s) (ei _ (ja (fD _ aa)));omega
 rw[a6,j4,k9];simp(disch:=omega)only[go_sem,h9];refine use (aub s e) ?_;simp(disch:=omega)only[go_sem];exact⟨_,rfl⟩
def ai4(m n:Nat)(c:n≠0)(a:2<=af (az n))(b:¬m<n)(d:m%n=0)(f:af (az m)<80)(g:af (az n)<80)(N:Nat):dm 250 [bx (az m),bx (az n)] (ah.zero N) λv _=>∃q,v=.aH [q,.aA]:=by refine bg II ?_;simp(disch:=omega)only[go_sem,d250,G6,G5,dt];refine(aiY m n c a b d aa aa N).mono ?_;rintro _ e ⟨q,rfl⟩;simp only[go_sem];exact⟨q,rfl⟩
def K1(H:ah)(v:V)(n b g:Nat):Prop:=∃M,v=.slice b 0 (af (az n)) (.grown 1)/\dB H b g (aQ M)/\M.take (af (az n))=az n/\W.aG M/\M.length<1000000
theorem Jy{b a c:av}(h:g++b=a):(a++c).take (af g)=g:=by grind
structure FE (X Y A B ba DS:Nat) (va UG:V) (H:ah):Prop where
 ra:K1 H va A ba DS
 a5:5<=ba
 akO:5<=DS
 CR:ba<H.ag
 gn:DS<H.ag
 le:B<=A
 CU:A<=X
 gcd:c9 A B=c9 X Y
 gt:GT H
 rb:(B=0/\UG=.aA)\/∃bb xS,K1 H UG B bb xS/\Cw ba DS bb xS H.ag/\5<=bb/\5<=xS
set_option maxHeartbeats 1000000 in
theorem akU(G O X Y a9 bo:Nat)(hX:af (az G)<80)(F:Fr)(H:ah)(R:b5)(dd:FE G O X Y a9 bo (rd 5 F) (rd 6 F) H)
 (hR:∀Z H' A B ba g,FE G O A B ba g (rd 5 Z) (rd 6 Z) H'->af (az B)<=1->R (.exit 0) Z H'):bK (.loop (pc 188 7)) R F H:=by
 refine b8 (λk ab e=>∃A B ba g,k=A+B/\FE G O A B ba g (rd 5 ab) (rd 6 ab) e) (X+Y) ⟨X,Y,a9,bo,rfl,dd⟩ ?_;rintro k ab e ⟨A,B,ba,g,rfl,a⟩;rw[acd];rcases a.rb with⟨S,m⟩|⟨bb,l,a2,f,cb,aw⟩
 .simp(disch:=omega)only[go_sem,m,df];refine hR _ _ A B ba g ?_ (by rw[S,k9];decide);simpa only[go_sem,↓reduceIte,mz]using a
 have e0:=hX;have a0:=fu (nu a.CU) hX;have cd:=fu (nu a.le) a0;obtain⟨w,Q,ap,K,da,es⟩:=a.ra;obtain⟨E,m,U,C,a6,ar⟩:=a2;by_cases am:1<af (az B)
 .have S:0<B:=lC ((j7 B).1 aa);simp(disch:=omega)only[go_sem,ab',Q,m,dt];refine(yV (R:=CG A B) (.f2 (tH ap (ah.hL _ _) rfl K) (tH U (ah.hL _ _) rfl C)) ((auh A B a.le am aa _).mono ?_)).mono ?_
  .rintro v d ⟨hs,_⟩;obtain⟨s,t,n,o,r,rfl,a3⟩:=hs;exact⟨_,λb=>.agg (.f5 .ii .ii .ii .ii .bb),s,t,n,o,r,rfl,a3⟩
  rintro _ e ⟨⟨s,t,n,o,r,rfl,l0,l1,eh,m1,d8⟩,rfl⟩;by_cases d9:n=0
  .simp(disch:=omega)only[go_sem,kT,NM,Q,m,dt];obtain⟨d,h⟩:∃d,d=(e.push (an [aC 0,aC 0,aC 0,aC 0,aR] 0)).set e.ag (an (kT s t n o r) 0):=⟨_,rfl⟩;have i:∀y,y<e.ag->d.get y=e.get y:=λy p=>by rw[h,ah.aT,ao aa,ah.bl,ao aa]
   have d2:d.ag=e.ag+1:=by rw[h];rfl
   unfold kT at h;rw[<-h];clear h;have T:dB d ba g (aQ w):=ap.keep (i _ a.CR) (i _ a.gn);have J:dB d bb l (aQ E):=U.keep (i _ f.lb') (i _ f.zx);have dE:GT d:=a.gt.keep λy p=>i y (by have:=a.CR;have:=a.a5;omega)
   have a1:c9 B (A%B)=c9 G O:=by rw[<-a.gcd,rX A B,Nat.gcd_rec B A,rX]
   have eQ:=a.le;have ds:=a.CU;have b2:=f.lb';have ca:=f.zx;have d1:=fD A S;by_cases V:A%B=0
   .refine(yV (R:=λv=>v=.aH [.any,.aA]) (.f2 (tH T (ah.hL _ _) rfl K) (tH J (ah.hL _ _) rfl C)) ((ai4 A B aa am aa V a0 cd _).mono ?_)).mono ?_
    .rintro v j ⟨q,rfl⟩;exact⟨_,λb=>.aH (.f2 (.any _) .aA),rfl⟩
    rintro _ d ⟨rfl,rfl⟩;simp(disch:=omega)only[go_sem,m];refine(Xt _).mono ?_;rintro _ d ⟨rfl,rfl⟩;simp(disch:=omega)only[go_sem];refine⟨B+0,aa,B,0,bb,l,rfl,?_⟩;simp only[go_sem];exact⟨⟨E,rfl,J,C,a6,ar⟩,cb,aw,aa,aa,aa,aa,by rw[V]at a1;exact a1,dE,.inl ⟨rfl,rfl⟩⟩
   .refine(MB (R:=λv b cs=>∃D c,v=.aH [.any,.slice b 0 (af (az (A%B))) c]/\cs=aQ (az (A%B)++D)) (.f2 (tH T (ah.hL _ _) rfl K) (tH J (ah.hL _ _) rfl C)) ((ai5 A B aa am aa V a0 cd _).mono ?_)).mono ?_
    .rintro v j ⟨q,b,D,c,rfl,k1,k2,bX⟩;exact⟨_,b,_,.aH (.f2 (.any _) (.slice _ _ _)),k1,k2,bX,λx hx=>by
      simp only[aQ,g8]at hx
      grind,D,c,rfl,rfl⟩
    rintro _ j ⟨b,cs,⟨D,c,rfl,rfl⟩,k1,k2,bX⟩;simp(disch:=omega)only[go_sem,m];have du:j.get b=an (aQ (az (A%B)++D)) 0:=by rw[bX,ay rfl]
    have M:∀y,y≠b->j.get y=d.get y:=λy p=>by rw[bX,ao p]
    have d6:af (az (A%B))<1000000:=by have:=nu (ja d1);omega
    refine(Xv (az (A%B)) D ⟨(j7 _).2 V,ja d6⟩ b c j du).mono ?_;rintro _ u ⟨rfl,j1,j2,fg⟩;simp(disch:=omega)only[go_sem];have N:∀y,y<e.ag->u.get y=e.get y:=λy p=>by grind
    refine⟨B+A%B,aa,B,A%B,bb,l,rfl,?_⟩;simp only[go_sem];refine⟨⟨E,rfl,U.keep (N _ b2) (N _ ca),C,a6,ar⟩,cb,aw,aa,aa,aa,aa,a1,a.gt.keep λy p=>N y aa,.inr ⟨_,_,⟨_,rfl,j1,dr (aJ _),g5 _,aa⟩,⟨aa,aa,aa,aa,aa,aa,aa,aa⟩,aa,aa⟩⟩
  .simp(disch:=omega)only[go_sem,kT,NM,ab_,df];obtain⟨d,h⟩:∃d,d=(e.push (an [aC 0,aC 0,aC 0,aC 0,aR] 0)).set e.ag (an (kT s t n o r) 0):=⟨_,rfl⟩;have i:∀y,y<e.ag->d.get y=e.get y:=λy p=>by rw[h,ah.aT,ao aa,ah.bl,ao aa]
   have a3:d.get e.ag=an (kT s t n o r) 0:=by rw[h,ah.aT,ay rfl]
   have d2:d.ag=e.ag+1:=by rw[h];rfl
   unfold kT at h;rw[<-h];clear h;have T:dB d ba g (aQ w):=ap.keep (i _ a.CR) (i _ a.gn);have J:dB d bb l (aQ E):=U.keep (i _ f.lb') (i _ f.zx);have b2:=f.lb';have ca:=f.zx;have ev:=a.CR;have ex:=a.gn;have dq:=nu a.le;refine ak7 (af (az A)) (af (az B)) ba bb l E (az B) rfl C a6 ar dq aa _ d _ ?_ ?_ J aa aa ?_
   iterate 2 simp only[go_sem,Q,m]
   intro a7 j P M' hF be bv db eq dk M e2 dv e';have bc:rd 5 a7=.slice ba 0 (af (az A)) (.grown 1):=(hF 5 ai ai).trans (by simp only[go_sem,Q]);have bp:rd 7 a7=.ptr e.ag 0:=(hF 7 ai ai).trans eJ;have ce:j.get e.ag=an (kT s t n o r) 0:=(M _ aa aa).trans a3;have dl:dB j ba g (aQ w):=T.keep (M _ aa f.h2) (M _ aa f.h4);have fa:=f.h1;have fb:=f.h3;have L:Cw ba g P l j.ag:=⟨aa,f.h2,aa,f.h4,aa,aa,dv,aa⟩;rw[gb];unfold kT at ce;simp(disch:=omega)only[go_sem,ab9,bc,be,bp,ce];obtain⟨a4,z,b',I⟩:=d8 d9;have d3:af (az A)<=w.length:=by have:=congrArg af K;rw[e8]at this;omega
   have d4:af (az A)<=M'.length:=by have:=congrArg af bv;rw[e8,bw,ux]at this;omega
   refine(VU w M' (af (az A)) s t n o r A B z b' da db d3 d4 aa (by rw[K,g7]) (by rw[bv,W.gi,g7,vv,gj,dG]) I a4 l0 l1 eh m1 ba g P l j dl dk L).mono ?_;rintro _ u ⟨ad,bd,la,lb,c2,c',va,em,bi,bj,e1,N⟩;simp(disch:=omega)only[go_sem,ab8,bc];refine(Fi ad (ad++w.drop (af (az A))) (af (az A)) la (by rw[<-la,s6];rfl) e7 ba g u bi).mono ?_;rintro _ u ⟨rfl,rfl⟩;simp(disch:=omega)only[go_sem,be];refine(Fi bd (bd++M'.drop (af (az A))) (af (az A)) lb (by rw[<-lb,s6];rfl) e7 P l u bj).mono ?_;rintro _ u ⟨rfl,rfl⟩;simp(disch:=omega)only[go_sem];have d0:=I.less aa a4 S;have dT:=I.le;have et:z<=A:=by
    have:=I.ba;have m1:z<=o*z:=by rw[dy];exact tN a4
    omega
   have cf:=Fj ad;have ch:=Fj bd;rw[nI c2,va]at cf⊢;rw[nI c',em]at ch⊢;obtain⟨fi,d5⟩:=cf;obtain⟨fn,a2⟩:=ch;have ds:=a.CU;have dp:=a.a5;have dC:=a.akO;refine⟨z+b',d0,z,b',ba,g,rfl,?_⟩;simp only[go_sem];refine⟨⟨_,rfl,bi,Jy d5,c2.app (da.drop _),by simp;omega⟩,dp,dC,aa,aa,dT,aa,by rw[I.gcd];exact a.gcd,a.gt.keep λy p=>?_,.inr ⟨P,l,⟨_,rfl,bj,Jy a2,c'.app (db.drop _),by simp;omega⟩,⟨L.h1,L.h2,L.h3,L.h4,aa,aa,aa,aa⟩,aa,aw⟩⟩;rw[N y aa aa aa aa aa,M y aa aa,i y aa]
 .simp(disch:=omega)only[go_sem,m,df];refine hR _ _ A B ba g ?_ aa;simpa only[go_sem,↓reduceIte,mz]using a
def akT(m n:Nat)(lm:af (az m)<80)(ln:af (az n)<80):cU 188 [bx (az m),bx (az n)] (bx (az (c9 m n))):=by
 refine dg (.f2 (eF _) (eF _)) (bg aoa ?_)
 have M:∀(a b:Nat) (F:Fr),b<=a->af (az a)<80->c9 a b=c9 m n->rd 0 F=bx (az a)->rd 1 F=bx (az b)->
  bK (pc 188 12) (gC [.tmp 4] λv1 f=>GT f/\∃v,bS f (dV.nW f.ag) v1 v/\bA v/\v=bx (az (c9 m n))) F dV:=by
  intro a b F D I l u i;have bc:=nu D;by_cases C:b=0
  .subst C;rw[k9]at i;rw[Nat.gcd_zero_right]at l;have L:((af ([]:av):Nat):Int)=0:=rfl;simp only[go_sem,NL,u,i,L,decide_true];rw[l];exact bO e5 rfl (eF _)
  .have ha:a≠0:=aa;have a6:=(j7 b).2 C;simp(disch:=omega)only[go_sem,NL,ab6,u,i,df];refine(AJ (az a) ⟨aa,aa⟩ _).mono ?_;rintro _ f ⟨rfl,w,s,G⟩;simp(disch:=omega)only[go_sem,i];refine(AJ (az b) ⟨aa,aa⟩ _).mono ?_;rintro _ O ⟨rfl,x,X,o⟩;have P:dV.ag=5:=rfl;rw[P]at s w G;rw[s]at X x o;rw[s];simp(disch:=omega)only[go_sem,ab5];have Z:∀y,y<5->O.get y=dV.get y:=λy Y=>(o y aa).trans (G y Y)
   refine akU a b a b 6 7 I _ _ _ ?_ ?_
   .simp only[go_sem];exact⟨⟨az a,rfl,w.keep (o _ ai) (o _ ai),dr (aJ _),g5 _,aa⟩,ai,ai,aa,aa,D,aJ _,rfl,e5.keep Z,.inr ⟨9,10,⟨az b,rfl,x,dr (aJ _),g5 _,aa⟩,⟨ai,ai,ai,ai,aa,aa,aa,aa⟩,ai,ai⟩⟩
   intro ae t A B ba ap c a0;rw[gb];obtain⟨am,p,q,r,bd,a1⟩:=c.ra;have aw:=fu (nu c.CU) I;have K:∀N,(dV.nW N).get ba=.none:=λN=>by have:=c.a5;rw[ah.sq,lF,ao aa,ao aa,ao aa]
   have E:B=0->az A=az (c9 m n):=λe=>by have:=c.gcd;rw[e,Nat.gcd_zero_right]at this;rw[this,l]
   have L:((af ([]:av):Nat):Int)=0:=rfl;rcases c.rb with⟨d,j⟩|⟨bb,ar,⟨g,j,Q,z,be,a2⟩,a4,a7,a8⟩
   .simp(disch:=omega)only[go_sem,GU,p,j,decide_true];exact⟨c.gt,_,tH q (K _) rfl r,eF _,by rw[E d]⟩
   .by_cases d:B=0
    .have a':af (az B)=0:=by rw[d,k9];rfl
     simp(disch:=omega)only[go_sem,GU,p,j,dt];exact⟨c.gt,_,tH q (K _) rfl r,eF _,by rw[E d]⟩
    .have H:af (az B)=1:=by have:=(j7 B).2 d;omega
     have k:B<18446744073709551616:=by have:=pG B;rw[H,Nat.pow_one]at this;exact this
     have R:g.getD 0 0=B:=by
      have e:(g.take (af (az B))).getD 0 0=g.getD 0 0:=by rw[H];simp only[bT];rw[List.getElem?_take,ay ai]
      rw[<-e,z,HU d k];rfl
     have S:0<g.length:=by have:=congrArg af z;rw[e8]at this;omega
     have J:jd false 1 [.ptr bb 0] t=some (aC B):=by rw[u7 Q,eG S,R]
     have W:A%B<18446744073709551616:=rZ (fD _ (lC d)) k;have U:c9 B (A%B)=c9 m n:=by rw[<-l,<-c.gcd,rX A B,Nat.gcd_rec B A,rX]
     have a9:c9 B (A%B)<=B:=Nat.gcd_le_left _ (lC d);have V:dO none 1 [.slice bb 0 (af (az B)) (.grown 1),aj 0]=some (.val (.ptr bb 0)):=cH aa;simp(disch:=omega)only[go_sem,GU,ace,p,j,df,V,J];refine(yV (R:=λv=>v=aC (A%B:Nat)) (.f2 (tH q (ah.hL _ _) rfl r) .mm) ((atg (az A) B (g5 A) ⟨lC d,k⟩ aa _).mono ?_)).mono ?_
     .rintro v H4 ⟨rfl,_⟩;exact⟨_,λb=>.int _ _,by rw[g7]⟩
     rintro _ t ⟨rfl,rfl⟩;simp(disch:=omega)only[go_sem,J,true_and];refine bq (akS B (A%B) k W) c.gt ?_;simp only[go_sem];refine use (DP _ aa) ?_;simp only[go_sem];rw[U];exact bO c.gt rfl (eF _)
 simp only[go_sem,d188,ab7];refine use (xE m n aa aa) ?_;by_cases h:m<n
 .have T:fW m n<0:=by rw[sg aa];decide
  simp(disch:=assumption)only[go_sem,dt];refine M n m _ aa ln (rX _ _) ?_ ?_
  iterate 2 simp only[go_sem]
 .have T:¬fW m n<0:=by unfold fW;rw[ao aa];split<;>decide
  simp(disch:=assumption)only[go_sem,df];refine M m n _ aa lm rfl ?_ ?_
  iterate 2 simp only[go_sem]
def eP(b:Nat)(z:Int):Prop:=z.natAbs<2^b
variable{q:Int}
def eP.mono{a:Nat}(h:eP a q)(b:a<=d):eP d q:=fy h (iI ai b)
def eP.add{a:Nat}{y:Int}(b:eP a q)(c:eP d y)(i:a+1<=m)(j:d+1<=m):eP m (q+y):=by
 have e:=b.mono (aa:a<=m-1);have f:=c.mono (aa:d<=m-1);unfold eP at*;have g:=Int.natAbs_add_le q y;have h:(2:Nat)^m=2^(m-1)*2:=by rw[<-dX,Nat.succ_eq_add_one,(aa:m-1+1=m)]
 omega
def eP.mul{a:Nat}{y:Int}(c:eP a q)(e:eP d y)(b:a+d<=m):eP m (q*y):=by refine eP.mono (a:=a+d) ?_ b;unfold eP at*;rw[nM,iB];exact Nat.mul_lt_mul'' c e
def eP.nat(h:d<2^a):eP a (d:Int):=by unfold eP;rw[eU];exact h
def eP.len{k:Nat}(h:eP a q)(b:a<=64*k):af (az q.natAbs)<=k:=by refine xL (fy h ?_);rw[(ai:(18446744073709551616:Nat)=2^64),<-Nat.pow_mul];exact iI ai b
def Fu(x y:Int)(k:af (az x.natAbs)<100000)(l:af (az y.natAbs)<100000):bm 177 [ck x,ck y] (ck (x+y)):=by
 refine gR (.f2 (gd _) (gd _)) (bg an3 ?_);have f:∀ {z w:Int},z=w->∀H:ah,∃u,bS H (ah.zero H.ag) (.agg (dK z)) u/\bA u/\u=ck w:=λe H=>jy (by rw[e];rfl) (gd _)
 have o:=xE x.natAbs y.natAbs aa aa;have r:∀s:Bool,decide (x<0)=s->decide (y<0)=s->(if s then-((x.natAbs+y.natAbs:Nat):Int)else((x.natAbs+y.natAbs:Nat):Int))=x+y:=by
  intro s c d;cases s with
  |true=>have:=of_decide_eq_true c;have:=of_decide_eq_true d;rw[ay rfl];omega
  |false=>have:=of_decide_eq_false c;have:=of_decide_eq_false d;rw[ao ai];omega
 have m:∀s t:Bool,decide (x<0)=s->decide (y<0)=t->s≠t->y.natAbs<=x.natAbs->(if s then-((x.natAbs-y.natAbs:Nat):Int)else((x.natAbs-y.natAbs:Nat):Int))=x+y:=by
  intro s t c d a q;cases s with
  |true=>
   cases t with
   |true=>exact absurd rfl a
   |false=>have:=of_decide_eq_true c;have:=of_decide_eq_false d;rw[ay rfl];omega
  |false=>
   cases t with
   |false=>exact absurd rfl a
   |true=>have:=of_decide_eq_false c;have:=of_decide_eq_true d;rw[ao ai];omega
 have n:∀s t:Bool,decide (x<0)=s->decide (y<0)=t->s≠t->x.natAbs<=y.natAbs->(if t then-((y.natAbs-x.natAbs:Nat):Int)else((y.natAbs-x.natAbs:Nat):Int))=x+y:=by
  intro s t c d a q;cases s with
  |true=>
   cases t with
   |true=>exact absurd rfl a
   |false=>have:=of_decide_eq_true c;have:=of_decide_eq_false d;rw[ao ai];omega
  |false=>
   cases t with
   |false=>exact absurd rfl a
   |true=>have:=of_decide_eq_false c;have:=of_decide_eq_true d;rw[ay rfl];omega
 generalize i:decide (x<0)=s at*
 generalize j:decide (y<0)=t at*
 by_cases a:s=t
 .subst a;have e:=r s rfl rfl;have g:∀b:Bool,pI false .bool [.bool b,.bool b]=some (.val cY):=λb=>by cases b<;>rfl
  simp only[go_sem,d177,ND,ck,dK,i,j,g];refine use (Vy x.natAbs y.natAbs k l) ?_;simp only[go_sem,true_and];refine use (yh s _) ?_;simp only[go_sem,ck,dK];exact f e _
 .have g:pI false .bool [.bool s,.bool t]=some (.val aR):=by cases s<;>cases t<;>first|rfl|exact absurd rfl a
  simp only[go_sem,d177,ND,abu,ck,dK,i,j,g];refine use o ?_;by_cases h:y.natAbs<=x.natAbs
  .have e:=m s t rfl rfl a h;have p:¬fW (x.natAbs:Int) (y.natAbs:Int)<0:=by unfold fW;rw[ao aa];split<;>decide
   simp(disch:=assumption)only[go_sem,df];refine use (Ub x.natAbs y.natAbs h k) ?_;simp only[go_sem,true_and];refine use (yh s _) ?_;simp only[go_sem,ck,dK];exact f e _
  .have e:=n s t rfl rfl a aa;have p:fW (x.natAbs:Int) (y.natAbs:Int)<0:=by rw[sg aa];decide
   simp(disch:=assumption)only[go_sem,abt,dt];refine use (Ub y.natAbs x.natAbs aa l) ?_;simp only[go_sem,true_and];refine use (yh t _) ?_;simp only[go_sem,ck,dK];exact f e _
def LY(s t:Bool):pI true .bool [.bool s,.bool t]=some (.val (.bool (!(s==t)))):=by cases s<;>cases t<;>rfl
theorem awT(x y:Int)(n:Nat)(h:n=x.natAbs*y.natAbs):(if(!(decide (x<0)==decide (y<0)))=true then-(n:Int)else(n:Int))=x*y:=by
 subst h
 grind
def sX(x y:Int)(a:af (az x.natAbs)<40)(b:af (az y.natAbs)<40):bm 173 [ck x,ck y] (ck (x*y)):=by refine gR (.f2 (gd _) (gd _)) (bg anZ ?_);simp only[go_sem,d173,abn,ck,dK,LY];refine use (aq3 x.natAbs y.natAbs a b) ?_;simp only[go_sem,true_and];refine use (yh _ _) ?_;rw[awT x y _ rfl];simp only[go_sem,ck,dK];exact jy rfl (gd _)
theorem UR(x y:Int)(e:af (az x.natAbs)<100000)(f:af (az y.natAbs)<100000):bm 172 [ck x,ck y] (aj (fW x y)):=by
 refine dM (.f2 (gd _) (gd _)) (.int _ _) (bg anY ?_);have c:=xE x.natAbs y.natAbs aa aa;have d:=xE y.natAbs x.natAbs aa aa;by_cases b:x<0
 .by_cases a:y<0
  .simp only[go_sem,d172,Df,ck,dK,b3 b,b3 a];refine use d ?_;simp only[go_sem];unfold fW
   grind
  .simp only[go_sem,d172,Df,ck,dK,b3 b,bP a];rw[sg aa]
 .by_cases a:y<0
  .simp only[go_sem,d172,Df,ck,dK,bP b,b3 a];rw[r_ aa]
  .simp only[go_sem,d172,Df,abm,ck,dK,bP b,bP a];refine use c ?_;simp only[go_sem]
   grind
def UX(x:Int):bm 234 [ck x] (aj x.sign):=by
 refine dM (.f1 (gd _)) (.int _ _) (bg aon ?_);have hl:=j7 x.natAbs;by_cases b:x=0
 .have e:((af (az x.natAbs):Nat):Int)=0:=aa;simp(disch:=omega)only[go_sem,d234,G0,ck,dK,dt];rw[b];rfl
 .have e:¬((af (az x.natAbs):Nat):Int)=0:=aa;by_cases a:x<0
  .simp(disch:=omega)only[go_sem,d234,G0,ck,dK,df,b3 a];rw[Int.sign_eq_neg_one_of_neg a]
  .simp(disch:=omega)only[go_sem,d234,G0,acZ,ck,dK,df];rw[Int.sign_eq_one_of_pos aa]
theorem Ae(x:Int):bm 124 [ck x] (.bool (decide (x=1))):=by
 refine dM (.f1 (gd _)) (.bool _) (bg anD ?_);by_cases a:x<0
 .simp(disch:=omega)only[go_sem,d124,GJ,ck,dK,b3 a,df]
 .have hl:=j7 x.natAbs;by_cases d:af (az x.natAbs)=1
  .have f:dO none 1 [bx (az x.natAbs),aj 0]=some (.val (.dY (aQ (az x.natAbs)) 0)):=ir ⟨ai,aa⟩;have g:(az x.natAbs).getD 0 0=x.natAbs:=by obtain⟨r,b,c⟩:=ox x.natAbs aa;rw[d]at b c;simp only[nQ,r0,eD]at b c;omega
   have e:decide (((x.natAbs:Nat):Int)=1)=decide (x=1):=decide_eq_decide.2 aa;simp(disch:=omega)only[go_sem,d124,GJ,ck,dK,bP a,dt,f,eG,g,e]
  .have h:x≠1:=λe=>by grind [ajk]
   simp(disch:=omega)only[go_sem,d124,GJ,ck,dK,bP a,df]
theorem tdiv_sign(x y:Int)(n:Nat)(h:n=x.natAbs/y.natAbs):(if(!(decide (x<0)==decide (y<0)))=true then-(n:Int)else(n:Int))=mP x y:=by
 subst h;by_cases d:x<0
 .obtain⟨a,rfl⟩:∃a:Nat,x= -(a:Int):=⟨x.natAbs,aa⟩;by_cases c:y<0
  .obtain⟨b,rfl⟩:∃b:Nat,y= -(b:Int):=⟨y.natAbs,aa⟩;rw[b3 d,b3 c,ao ai,Int.neg_tdiv,Int.tdiv_neg,Int.neg_neg,pY,pY,eU,eU];rfl
  .obtain⟨b,rfl⟩:∃b:Nat,y=(b:Int):=⟨y.natAbs,aa⟩;rw[b3 d,bP c,ay ai,Int.neg_tdiv,pY,eU,eU];rfl
 .obtain⟨a,rfl⟩:∃a:Nat,x=(a:Int):=⟨x.natAbs,aa⟩;by_cases c:y<0
  .obtain⟨b,rfl⟩:∃b:Nat,y= -(b:Int):=⟨y.natAbs,aa⟩;rw[bP d,b3 c,ay ai,Int.tdiv_neg,pY,eU,eU];rfl
  grind
theorem avw(x y:Int)(n:Nat)(h:n=x.natAbs%y.natAbs):(if decide (x<0)=true then-(n:Int)else(n:Int))=oB x y:=by
 subst h;obtain⟨b,c⟩:∃b:Nat,y.natAbs=b:=⟨_,rfl⟩;have f:oB x y=oB x (b:Int):=by
  rcases Int.natAbs_eq y with e|e
  .rw[e,c]
  .rw[e,c,Int.tmod_neg]
 rw[f,c];by_cases d:x<0
 .obtain⟨a,rfl⟩:∃a:Nat,x= -(a:Int):=⟨x.natAbs,aa⟩;rw[b3 d,ay rfl,Int.neg_tmod,pY,eU];rfl
 grind
def awH(x y:Int)(c:y≠0)(a:af (az x.natAbs)<80)(b:af (az y.natAbs)<80):bm 241 [ck x,ck y] (.aH [ck (mP x y),ck (oB x y)]):=by refine gR (.f2 (gd _) (gd _)) (bg aou ?_);have hl:=(j7 y.natAbs).2 aa;simp(disch:=omega)only[go_sem,d241,adi,adh,ck,dK,df];refine use (ai3 x.natAbs y.natAbs aa a b) ?_;simp only[go_sem,adg,LY];refine use (yh _ _) ?_;rw[tdiv_sign x y _ rfl];simp only[go_sem,true_and];refine use (yh _ _) ?_;rw[avw x y _ rfl];simp only[go_sem,ck,dK];exact jy rfl (.aH (.f2 (gd _) (gd _)))
def Af(x y:Int)(d:y≠0)(e:af (az x.natAbs)<80)(f:af (az y.natAbs)<80):bm 178 [ck x,ck y] (ck (mP x y)):=by
 refine gR (.f2 (gd _) (gd _)) (bg an4 ?_);have a:=Ae y;have c:=awH x y d e f;unfold ck dK at c a;by_cases b:y=1
 .rw[b3 b]at a;simp only[go_sem,d178,NF,ck,dK];refine use a ?_;simp only[go_sem];exact jy (by rw[b,Int.tdiv_one]) (gd _)
 .rw[bP b]at a;simp only[go_sem,d178,NF,abw,abv,ck,dK];refine use a ?_;simp only[go_sem];refine use c ?_;simp only[go_sem];exact jy rfl (gd _)
def Ct(x y:Int)(b:af (az x.natAbs)<80)(c:af (az y.natAbs)<80):cU 123 [ck x,ck y] (ck (c9 x.natAbs y.natAbs:Nat)):=by
 refine dg (.f2 (gd _) (gd _)) (bg anC ?_);simp only[go_sem,d123,Zj,ck,dK];have a:GT (((dV.push (an [.bool (decide (x<0)),bx (az x.natAbs)] 0)).push (an [.bool (decide (y<0)),bx (az y.natAbs)] 0)).push (an [aR,.aA] 0)):=((e5.push ai _).push (by show 5<=6;decide) _).push (by show 5<=7;decide) _
 refine bq (akT _ _ b c) a ?_;simp only[go_sem];refine bO (a.set ai _) ?_ (gd _);exact(iN _).symm
def awB(n:Int)(h: -9223372036854775808<=n/\n<9223372036854775808):bm 238 [aj n] (ck n):=by
 refine gR (.f1 .ii) (bg aor ?_);by_cases b:n<0
 .obtain⟨m,rfl⟩:∃m:Nat,n= -(m:Int):=⟨n.natAbs,aa⟩;have a:aE .u64 (-(m:Int))=((18446744073709551616-m:Nat):Int):=by rw[hN];omega
  have c:aE .u64 (-((18446744073709551616-m:Nat):Int))=(m:Int):=by rw[hN];omega
  simp(disch:=omega)only[go_sem,d238,N6,dt,a,c];refine use (DP m aa) ?_;simp only[go_sem];refine jy ?_ (gd _);unfold ck dK;rw[b3 b,pY,eU]
 .obtain⟨m,rfl⟩:∃m:Nat,n=(m:Int):=⟨n.natAbs,aa⟩;have a:aE .u64 ((m:Nat):Int)=(m:Int):=cz _ aa;simp(disch:=omega)only[go_sem,d238,N6,ac7,df,a];refine use (DP m aa) ?_;simp only[go_sem];refine jy ?_ (gd _);rw[iN]
def uY(z:Int):V:=if-9223372036854775808<=z/\z<9223372036854775808 then .aH [aj z,cY]else .aH [aj 0,aR]
def aj1(z:Int):bA (uY z):=by
 unfold uY;split
 .exact .aH (.f2 .ii .bb)
 .exact .aH (.f2 .ii .bb)
def awA(z:Int)(s:af (az z.natAbs)<100000):bm 166 [ck z] (uY z):=by
 refine dM (.f1 (gd _)) (aj1 _) (bg anU ?_);have p:=j7 z.natAbs;by_cases j:z=0
 .have e:af (az z.natAbs)=0:=aa;simp(disch:=omega)only[go_sem,d166,y2,ck,dK,dt];rw[j];rfl
 have d:af (az z.natAbs)≠0:=aa;have a:dO none 1 [bx (az z.natAbs),aj 0]=some (.val (.dY (aQ (az z.natAbs)) 0)):=ir ⟨ai,aa⟩;have l:=pG z.natAbs;by_cases h:af (az z.natAbs)=1
 .have b:(az z.natAbs).getD 0 0=z.natAbs:=by obtain⟨r,f,g⟩:=ox z.natAbs aa;rw[h]at f g;simp only[nQ,r0,eD]at f g;omega
  rw[h,Nat.pow_one]at l;by_cases q:z<0
  .by_cases k:z.natAbs<=9223372036854775808
   .have m:aE .u64 (-((z.natAbs:Nat):Int))=((18446744073709551616-z.natAbs:Nat):Int):=by rw[hN];omega
    have c:aE .i64 ((18446744073709551616-z.natAbs:Nat):Int)=z:=by rw[rN];unfold uv;simp[rQ,rR];omega
    simp(disch:=omega)only[go_sem,d166,y2,AR,AQ,ck,dK,df,dt,a,eG,b,m,c];unfold uY;rw[ay aa]
   .simp(disch:=omega)only[go_sem,d166,y2,AR,AQ,Nw,ck,dK,df,dt,a,eG,b];unfold uY;rw[ao aa]
  .by_cases k:z.natAbs<=9223372036854775807
   .have c:aE .i64 ((z.natAbs:Nat):Int)=z:=by rw[aK _ aa];omega
    simp(disch:=omega)only[go_sem,d166,y2,AR,AQ,ck,dK,df,a,eG,b,c];unfold uY;rw[ay aa]
   .simp(disch:=omega)only[go_sem,d166,y2,AR,AQ,Nw,ck,dK,df,dt,a,eG,b];unfold uY;rw[ao aa]
 .have o:18446744073709551616<=z.natAbs:=by have i:=W.aY.pos (Dx z.natAbs) (λe=>by rw[e]at d;exact d rfl);rw[g7]at i;refine c5 ?_ i;have:=iI (n:=18446744073709551616) ai (aa:1<=af (az z.natAbs)-1);rw[Nat.pow_one]at this;exact this
  simp(disch:=omega)only[go_sem,d166,y2,AR,AQ,ck,dK,df,dt,a,eG];unfold uY;rw[ao aa]
def TU:∀x:Fin 100,(lu.getD (2*x.val) 0).toNat=48+x.val/10/\(lu.getD (2*x.val+1) 0).toNat=48+x.val%10:=ai
variable{C:aW}{p:IntKind}
theorem Rt(h:a<af C):oa [.str C,.int p (a:Int)]=some (.val (.int .u8 (((C.getD a 0).toNat:Nat):Int))):=u0 aa b4
def xW(h:a<100):oa [.str lu,.int .u32 ((2*a+1:Nat):Int)]=some (.val (.int .u8 ((48+a%10:Nat):Int))):=by rw[Rt (by show 2*a+1<200;omega),(TU ⟨a,h⟩).2]
def xX(h:a<100):oa [.str lu,.int .u32 ((2*a:Nat):Int)]=some (.val (.int .u8 ((48+a/10:Nat):Int))):=by rw[Rt (by show 2*a<200;omega),(TU ⟨a,h⟩).1]
def lR(b X a:aW)(i:Nat)(D:aW):au:=cV (b++X.take i++D++a)
def WQ(L:aW)(j:Nat)(c:UInt8):(cV L).set j (.int .u8 (c.toNat:Int))=cV (L.set j c):=by simp[cV,List.map_set]
theorem oW{pre X post D:aW}{i o d:Nat}(b:af pre=o)(hi:i<X.length)(a:d<10):dj [V.int .u8 ((48+d:Nat):Int)] (lR pre X post (i+1) D) (o+i)=some (lR pre X post i (iD (48+d)::D)):=by
 have c:X.take (i+1)=X.take i++[X[i]]:=lT hi;have hl:af (pre++X.take i)=o+i:=by simp[b];omega
 have e:pre++X.take (i+1)++D++post=pre++X.take i++X[i]::(D++post):=by rw[c];simp only[gX,gv,fS]
 unfold lR;rw[e,fE (by grind [j6,bw]),show V.int .u8 ((48+d:Nat):Int)=V.int .u8 (((iD (48+d)).toNat:Nat):Int)from by rw[ofNat_toNat a],WQ,<-hl,List.set_append_right _ _ (aJ _),nQ]
 grind
def oT{b o n m:Nat}{c:Cap}{k:IntKind}{x:Int}(d:x=(m:Int))(a:m<n):dO none 1 [.slice b o n c,.int k x]=some (.val (.ptr b (o+m))):=by simp_all [cH,cg,eD]
set_option maxHeartbeats 1000000 in
theorem asE(a X d D:aW)(n o b i g k l m:Nat)(c:Cap)(f:af a=o)(hX:X.length=n)(hi:i+8<=n)(hn:n<=20)(u:g<100)(v:k<100)(w:l<100)(y:m<100)(F:Fr)(H:ah)(Q:b5)(s:rd 0 F=.slice b o n c)(t:rd 4 F=aj (i+8:Nat))(G:rd 9 F=.int .u32 ((2*g:Nat):Int))(E:rd 8 F=.int .u32 ((2*k:Nat):Int))(C:rd 11 F=.int .u32 ((2*l:Nat):Int))(B:rd 10 F=.int .u32 ((2*m:Nat):Int))(A:H.get b=an (lR a X d (i+8) D) 0)
 (I:∀r z,rd 0 r=rd 0 F->rd 1 r=rd 1 F->rd 4 r=aj i->eZ H z b (lR a X d i (iD (48+m/10)::iD (48+m%10)::iD (48+l/10)::iD (48+l%10)::iD (48+k/10)::iD (48+k%10)::iD (48+g/10)::iD (48+g%10)::D))->Q .norm r z):bK Gq Q F H:=by
 have wp:∀x:Nat,x<100->aE .u32 (((2*x:Nat):Int)+1)=((2*x+1:Nat):Int):=λx hx=>by grind [iU]
 have w0:=wp g u;have w1:=wp k v;have w2:=wp l w;have w3:=wp m y;have x0:=xW u;have a3:=xW v;have a4:=xW w;have a5:=xW y;have y0:=xX u;have y1:=xX v;have a8:=xX w;have a9:=xX y;have p:∀x,x<100->x/10<10:=λx h=>aa
 have q:∀x,x%10<10:=λx=>fD _ ai
 have S:=λD=>oW (pre:=a) (X:=X) (post:=d) (D:=D) (i:=i+7) f aa (q g)
 have T:=λD=>oW (pre:=a) (X:=X) (post:=d) (D:=D) (i:=i+6) f aa (p g u)
 have l3:=λD=>oW (pre:=a) (X:=X) (post:=d) (D:=D) (i:=i+5) f aa (q k)
 have l4:=λD=>oW (pre:=a) (X:=X) (post:=d) (D:=D) (i:=i+4) f aa (p k v)
 have U:=λD=>oW (pre:=a) (X:=X) (post:=d) (D:=D) (i:=i+3) f aa (q l)
 have V:=λD=>oW (pre:=a) (X:=X) (post:=d) (D:=D) (i:=i+2) f aa (p l w)
 have W:=λD=>oW (pre:=a) (X:=X) (post:=d) (D:=D) (i:=i+1) f aa (q m)
 have Y:=λD=>oW (pre:=a) (X:=X) (post:=d) (D:=D) (i:=i) f aa (p m y)
 have e:∀j:Int,0<=j/\j<=8->aE .i64 (((i+8:Nat):Int)-j)=((i+8:Nat):Int)-j:=λj hj=>aK _ aa
 have Z:=e 1 ai;have v2:=e 2 ai;have v3:=e 3 ai;have v4:=e 4 ai;have ae:=e 5 ai;have v6:=e 6 ai;have am:=e 7 ai;have ap:=e 8 ai;have J:=oT (b:=b) (o:=o) (n:=n) (c:=c) (k:=.i64) (x:=((i+8:Nat):Int)-1) (m:=i+7) aa aa;have K:=oT (b:=b) (o:=o) (n:=n) (c:=c) (k:=.i64) (x:=((i+8:Nat):Int)-2) (m:=i+6) aa aa;have L:=oT (b:=b) (o:=o) (n:=n) (c:=c) (k:=.i64) (x:=((i+8:Nat):Int)-3) (m:=i+5) aa aa;have M:=oT (b:=b) (o:=o) (n:=n) (c:=c) (k:=.i64) (x:=((i+8:Nat):Int)-4) (m:=i+4) aa aa;have N:=oT (b:=b) (o:=o) (n:=n) (c:=c) (k:=.i64) (x:=((i+8:Nat):Int)-5) (m:=i+3) aa aa;have O:=oT (b:=b) (o:=o) (n:=n) (c:=c) (k:=.i64) (x:=((i+8:Nat):Int)-6) (m:=i+2) aa aa;have P:=oT (b:=b) (o:=o) (n:=n) (c:=c) (k:=.i64) (x:=((i+8:Nat):Int)-7) (m:=i+1) aa aa;have R:=oT (b:=b) (o:=o) (n:=n) (c:=c) (k:=.i64) (x:=((i+8:Nat):Int)-8) (m:=i) aa aa;clear e p q wp;simp only[go_sem,Gq,s,t,G,Z,v2,w0,x0,y0,J,K,A,S,T];simp only[go_sem,Mo,s,t,E,v3,v4,w1,a3,y1,L,M,l3,l4];simp only[go_sem,Mn,s,t,C,ae,v6,w2,a4,a8,N,O,U,V];simp only[go_sem,Mk,Mj,s,t,B,am,ap,w3,a5,a9,P,R,W,Y];refine I _ _ ?_ ?_ ?_ ?_
 iterate 2 simp only[go_sem]
 .simp only[go_sem];congr 1;omega
 .exact((((((((eZ.refl A).set _).set _).set _).set _).set _).set _).set _).set _
set_option maxHeartbeats 1000000 in
theorem akr(l X v:aW)(n a o b:Nat)(c:Cap)(ho:af l=o)(hX:X.length=n)(hn:n<=20)(hu:a<18446744073709551616)(F:Fr)(H:ah)(R:b5)(U:rd 0 F=.slice b o n c)(e1:rd 1 F=aC a)(V:rd 4 F=aj n)(ad:H.get b=an (lR l X v n []) 0)
 (hR:∀e w i k,i+k=n->i<8->rd 0 e=.slice b o n c->rd 1 e=aC (a/10^k:Nat)->rd 4 e=aj i->eZ H w b (lR l X v i (dp k a))->R (.exit 0) e w):bK (.loop Gn) R F H:=by
 refine b8 (λm q E=>∃k,m+k=n/\rd 0 q=.slice b o n c/\rd 1 q=aC (a/10^k:Nat)/\rd 4 q=aj m/\eZ H E b (lR l X v m (dp k a))) n ⟨0,rfl,U,by grind,V,eZ.refl ad⟩ ?_;rintro m q E ⟨k,hk,A,N,t,B⟩;unfold Gn;by_cases h8:8<=m
 .obtain⟨i,rfl⟩:∃i,m=i+8:=⟨m-8,aa⟩;have hg:=B.at;have cf:a/10^k<18446744073709551616:=fu (js _ _) hu;have y:dp (k+2) a=_:=xK k a _ rfl;have r:dp (k+2+2) a=_:=xK (k+2) a _ rfl;have d3:dp (k+2+2+2) a=_:=xK (k+2+2) a _ rfl;have z:dp (k+2+2+2+2) a=_:=xK (k+2+2+2) a _ rfl;have C:a/10^(k+2)=a/10^k/100:=by rw[iB,qO]
  have D:a/10^(k+2+2)=a/10^k/10000:=by rw[iB,<-qO,C];omega
  have fY:a/10^(k+2+2+2)=a/10^k/1000000:=by rw[iB,<-qO,D];omega
  have ba:a/10^(k+8)=a/10^k/100000000:=by rw[iB,<-qO]
  rw[C]at r;rw[D]at d3;rw[fY]at z;generalize a/10^k=u at*
  obtain⟨s,T⟩:∃s,s=u%100000000:=⟨_,rfl⟩;obtain⟨hi,L⟩:∃x,x=s/10000:=⟨_,rfl⟩;obtain⟨lo,M⟩:∃x,x=s%10000:=⟨_,rfl⟩;obtain⟨f,G⟩:∃x,x=lo%100:=⟨_,rfl⟩;obtain⟨g,I⟩:∃x,x=lo/100:=⟨_,rfl⟩;obtain⟨h,J⟩:∃x,x=hi%100:=⟨_,rfl⟩;obtain⟨j,K⟩:∃x,x=hi/100:=⟨_,rfl⟩;rw[(aa:u%100=f)]at y;rw[(aa:u/100%100=g),y]at r;rw[(aa:u/10000%100=h),r]at d3;rw[(aa:u/1000000%100=j),d3]at z;clear y r d3 C D fY;have q1:oB (u:Int) 100000000=(s:Int):=by rw[T];rfl
  have bc:mP (u:Int) 100000000=((u/100000000:Nat):Int):=rfl;have bd:mP (s:Int) 10000=(hi:Int):=by rw[L];rfl
  have be:oB (s:Int) 10000=(lo:Int):=by rw[M];rfl
  have bi:mP (lo:Int) 100=(g:Int):=by rw[I];rfl
  have bj:oB (lo:Int) 100=(f:Int):=by rw[G];rfl
  have bo:mP (hi:Int) 100=(j:Int):=by rw[K];rfl
  have bs:oB (hi:Int) 100=(h:Int):=by rw[J];rfl
  have a1:s<100000000:=aa;have O:f<100:=aa;have P:g<100:=aa;have Q:h<100:=aa;have S:j<100:=aa;have cd:hi<10000:=aa;have ce:lo<10000:=aa;have b1:¬(100:Int)=0:=ai;have b2:¬(10000:Int)=0:=ai;have b':¬(100000000:Int)=0:=ai;have ws:aE .u64 ((s:Nat):Int)=(s:Int):=cz _ aa;have bv:aE .u64 ((u/100000000:Nat):Int)=((u/100000000:Nat):Int):=cz _ aa;clear T L M G I J K;have d:∀x:Nat,x<100000000->aE .u32 ((x:Nat):Int)=(x:Int):=λx hx=>iU _ aa
  have p:∀x:Nat,x<100->aE .u32 ((x:Int)*2)=((2*x:Nat):Int):=λx hx=>by grind [iU]
  have k1:=d s a1;have k2:=d hi aa;have bX:=d lo aa;have ch:=d f aa;have a6:=d g aa;have ci:=d h aa;have eB:=d j aa;have a7:=p f O;have m1:=p g P;have m2:=p h Q;have a':=p j S;clear d p;have cb:¬((i+8:Nat):Int)<8:=aa;simp(disch:=assumption)only[go_sem,Mt,Ms,Mr,Mq,Mp,N,t,df,j5,nY,q1,bc,bd,be,bi,bj,bo,bs,bv,k1,k2,a6,eB,a7,m1,m2,a'];refine asE l X v (dp k a) n o b i f g h j c ho hX aa hn O P Q S _ _ _ ?_ ?_ ?_ ?_ ?_ ?_ hg ?_
  iterate 6 simp only[go_sem,A,t]
  intro e w W Y Z al;have h0:rd 0 e=.slice b o n c:=W.trans (by simp only[go_sem,A]);have h1:rd 1 e=aC (u/100000000:Nat):=Y.trans eJ;simp only[go_sem];refine⟨i,aa,k+8,aa,h0,?_,Z,?_⟩
  .rw[ba];exact h1
  .rw[show k+8=k+2+2+2+2 from rfl,z];exact B.trans al
 .simp(disch:=omega)only[go_sem,t,dt];refine hR _ _ m k hk aa ?_ ?_ ?_ B
  iterate 3 simp only[go_sem,A,N,t]
section
variable (pre X post:aW) (n cu o b:Nat) (c:Cap) (ho:af pre=o) (hX:X.length=n) (hn:n<=20)
include ho hX hn
def QH(i k u:Nat)(A:i+k=n)(hi:i<2)(t:u=cu/10^k)(v:u<10^i)(F:Fr)(H:ah)(Q:b5)(p:rd 0 F=.slice b o n c)(f:rd 4 F=aj i)(q:rd 12 F=.int .u32 (u:Int))(a:H.get b=an (lR pre X post i (dp k cu)) 0)
 (g:∀l e,eZ H e b (lR pre X post 0 (dp n cu))->Q .norm l e):bK C0 Q F H:=by
 by_cases r:i=0
 .subst r;have d:k=n:=aa;subst d;simp(disch:=omega)only[go_sem,C0,Gp,f,df];exact g _ _ (eZ.refl a)
 .have s:i=1:=aa;subst s;have d:n=k+1:=aa;have j:u<10:=by simpa using v
  have h:=ai9 k cu u t;rw[jR j]at h;have y:aE .u32 ((48:Int)+(u:Int))=((48+u:Nat):Int):=by rw[iU _ aa];omega
  have z:aE .u8 ((48+u:Nat):Int)=((48+u:Nat):Int):=H_ _ aa;have w:=oT (b:=b) (o:=o) (n:=n) (c:=c) (k:=.i64) (x:=0) (m:=0) rfl aa;have x:dj [V.int .u8 ((48+u:Nat):Int)] (lR pre X post 1 (dp k cu)) o=some (lR pre X post 0 (iD (48+u)::dp k cu)):=oW (i:=0) (o:=o) ho aa j;have m:((1:Nat):Int)=1:=rfl;simp(disch:=omega)only[go_sem,C0,Gp,p,f,q,m,dt,y,z,w,a];rw[x];simp only[go_sem];refine g _ _ ?_;rw[d,h];exact(eZ.refl a).set _
def QI(i k u:Nat)(w:i+k=n)(hi:i<4)(l:u=cu/10^k)(m:u<10^i)(F:Fr)(H:ah)(Q:b5)(f:rd 0 F=.slice b o n c)(g:rd 4 F=aj i)(p:rd 12 F=.int .u32 (u:Int))(h:H.get b=an (lR pre X post i (dp k cu)) 0)
 (r:∀e d,eZ H d b (lR pre X post 0 (dp n cu))->Q .norm e d):bK C1 Q F H:=by
 have S:u<10000:=fy m (c5 (iI ai (aa:i<=4)) ai);by_cases P:2<=i
 .obtain⟨j,rfl⟩:∃j,i=j+2:=⟨i-2,aa⟩;obtain⟨a,q⟩:∃x,x=u%100:=⟨_,rfl⟩;have s:a<100:=aa;have v:dp (k+2) cu=_:=xK k cu a (by rw[q,l]);have G:oB (u:Int) 100=(a:Int):=by rw[q];rfl
  have I:mP (u:Int) 100=((u/100:Nat):Int):=rfl;have O:¬(100:Int)=0:=ai;have T:aE .u32 ((a:Nat):Int)=(a:Int):=iU _ aa;have B:aE .u32 ((u/100:Nat):Int)=((u/100:Nat):Int):=iU _ aa;have E:aE .u32 ((a:Int)*2)=((2*a:Nat):Int):=by rw[iU _ aa];omega
  have L:aE .u32 (((2*a:Nat):Int)+1)=((2*a+1:Nat):Int):=by rw[iU _ aa];omega
  have M:=xW s;have N:=xX s;have C:=oW (pre:=pre) (X:=X) (post:=post) (D:=dp k cu) (i:=j+1) (o:=o) (d:=a%10) ho aa (fD _ ai);have D:=oW (pre:=pre) (X:=X) (post:=post) (D:=iD (48+a%10)::dp k cu) (i:=j) (o:=o) (d:=a/10) ho aa aa;have J:aE .i64 (((j+2:Nat):Int)-1)=((j+2:Nat):Int)-1:=aK _ aa;have K:aE .i64 (((j+2:Nat):Int)-2)=(j:Int):=by rw[aK _ aa];omega
  have z:=oT (b:=b) (o:=o) (n:=n) (c:=c) (k:=.i64) (x:=((j+2:Nat):Int)-1) (m:=j+1) aa aa;have A:=oT (b:=b) (o:=o) (n:=n) (c:=c) (k:=.i64) (x:=(j:Int)) (m:=j) rfl aa;have R:¬((j+2:Nat):Int)<2:=aa;simp(disch:=assumption)only[go_sem,C1,f,g,p,df,j5,nY,G,I,B,E,L,M,N,J,K,z,A,h,C,D];have y:u/100<10^j:=by rw[s8 ai,show(100:Nat)=10^2 from rfl,<-iB];exact m
  refine QH pre X post n cu o b c ho hX hn j (k+2) (u/100) aa aa (by rw[l,iB,qO]) y _ _ _ ?_ ?_ ?_ ?_ ?_
  iterate 3 simp only[go_sem,f]
  .rw[v,ah.aT,ay rfl]
  .intro e d t;exact r e d (((eZ.refl h).set _).set _|>.trans t)
 .simp(disch:=omega)only[go_sem,C1,g,dt];refine QH pre X post n cu o b c ho hX hn i k u w aa l m _ _ _ ?_ ?_ ?_ h r
  iterate 3 simp only[go_sem,f,g,p]
set_option maxHeartbeats 1000000 in
def akq(i k u:Nat)(C:i+k=n)(hi:i<8)(f:u=cu/10^k)(p:u<10^i)(F:Fr)(H:ah)(Q:b5)(h:rd 0 F=.slice b o n c)(l:rd 4 F=aj i)(r:rd 12 F=.int .u32 (u:Int))(m:H.get b=an (lR pre X post i (dp k cu)) 0)
 (s:∀g e,eZ H e b (lR pre X post 0 (dp n cu))->Q .norm g e):bK C2 Q F H:=by
 have a3:u<100000000:=fy p (c5 (iI ai (aa:i<=8)) ai);by_cases h2:4<=i
 .obtain⟨j,rfl⟩:∃j,i=j+4:=⟨i-4,aa⟩;obtain⟨lo,A⟩:∃x,x=u%10000:=⟨_,rfl⟩;obtain⟨a,y⟩:∃x,x=lo%100:=⟨_,rfl⟩;obtain⟨d,z⟩:∃x,x=lo/100:=⟨_,rfl⟩;have t:a<100:=aa;have v:d<100:=aa;have R:cu/10^(k+2)=u/100:=by rw[f,iB,qO]
  have S:cu/10^(k+4)=u/10000:=by rw[f,iB,qO]
  have w:dp (k+2) cu=_:=xK k cu a (by rw[<-f];omega);have q:dp (k+2+2) cu=_:=xK (k+2) cu d (by rw[R];omega);rw[w]at q;have T:oB (u:Int) 10000=(lo:Int):=by rw[A];rfl
  have U:mP (u:Int) 10000=((u/10000:Nat):Int):=rfl;have V:mP (lo:Int) 100=(d:Int):=by rw[z];rfl
  have W:oB (lo:Int) 100=(a:Int):=by rw[y];rfl
  have aw:¬(100:Int)=0:=ai;have a0:¬(10000:Int)=0:=ai;have k0:aE .u32 ((lo:Nat):Int)=(lo:Int):=iU _ aa;have k1:aE .u32 ((a:Nat):Int)=(a:Int):=iU _ aa;have L:aE .u32 ((u/10000:Nat):Int)=((u/10000:Nat):Int):=iU _ aa;have bX:aE .u32 ((d:Nat):Int)=(d:Int):=iU _ aa;have O:aE .u32 ((a:Int)*2)=((2*a:Nat):Int):=by rw[iU _ aa];omega
  have P:aE .u32 ((d:Int)*2)=((2*d:Nat):Int):=by rw[iU _ aa];omega
  have w0:aE .u32 (((2*a:Nat):Int)+1)=((2*a+1:Nat):Int):=by rw[iU _ aa];omega
  have w1:aE .u32 (((2*d:Nat):Int)+1)=((2*d+1:Nat):Int):=by rw[iU _ aa];omega
  have x0:=xW t;have y0:=xX t;have am:=xW v;have y1:=xX v;have M:=λD=>oW (pre:=pre) (X:=X) (post:=post) (D:=D) (i:=j+3) (o:=o) (d:=a%10) ho aa (fD _ ai)
  have N:=λD=>oW (pre:=pre) (X:=X) (post:=post) (D:=D) (i:=j+2) (o:=o) (d:=a/10) ho aa aa
  have l3:=λD=>oW (pre:=pre) (X:=X) (post:=post) (D:=D) (i:=j+1) (o:=o) (d:=d%10) ho aa (fD _ ai)
  have l4:=λD=>oW (pre:=pre) (X:=X) (post:=post) (D:=D) (i:=j) (o:=o) (d:=d/10) ho aa aa
  have Y:aE .i64 (((j+4:Nat):Int)-1)=((j+4:Nat):Int)-1:=aK _ aa;have Z:aE .i64 (((j+4:Nat):Int)-2)=((j+4:Nat):Int)-2:=aK _ aa;have v3:aE .i64 (((j+4:Nat):Int)-3)=((j+4:Nat):Int)-3:=aK _ aa;have v4:aE .i64 (((j+4:Nat):Int)-4)=(j:Int):=by rw[aK _ aa];omega
  have G:=oT (b:=b) (o:=o) (n:=n) (c:=c) (k:=.i64) (x:=((j+4:Nat):Int)-1) (m:=j+3) aa aa;have I:=oT (b:=b) (o:=o) (n:=n) (c:=c) (k:=.i64) (x:=((j+4:Nat):Int)-2) (m:=j+2) aa aa;have J:=oT (b:=b) (o:=o) (n:=n) (c:=c) (k:=.i64) (x:=((j+4:Nat):Int)-3) (m:=j+1) aa aa;have K:=oT (b:=b) (o:=o) (n:=n) (c:=c) (k:=.i64) (x:=(j:Int)) (m:=j) rfl aa;have a2:¬((j+4:Nat):Int)<4:=aa;simp(disch:=assumption)only[go_sem,C2,h,l,r,df,j5,nY,T,U,V,W,L,bX,O,P,w0,w1,x0,y0,am,y1,Y,Z,v3,v4,G,I,J,K,m,M,N,l3,l4];have E:u/10000<10^j:=by rw[s8 ai,show(10000:Nat)=10^4 from rfl,<-iB];exact p
  refine QI pre X post n cu o b c ho hX hn j (k+4) (u/10000) aa aa S.symm E _ _ _ ?_ ?_ ?_ ?_ ?_
  iterate 3 simp only[go_sem,h]
  .rw[show k+4=k+2+2 from rfl,q,ah.aT,ay rfl]
  .intro g e B;exact s g e (((((eZ.refl m).set _).set _).set _).set _|>.trans B)
 .simp(disch:=omega)only[go_sem,C2,l,dt];refine QI pre X post n cu o b c ho hX hn i k u C aa f p _ _ _ ?_ ?_ ?_ m s
  iterate 3 simp only[go_sem,h,l,r]
theorem QJ(s:cu<18446744073709551616)(r:cu<10^n)(H:ah)(p:H.get b=an (cV (pre++X++post)) 0):dm 293 [.slice b o n c,aC cu] H λ_ g=>eZ H g b (cV (pre++dp n cu++post)):=by
 have q:H.get b=an (lR pre X post n []) 0:=by
  rw[p];unfold lR
  grind
 refine bg aoL ?_;simp(disch:=omega)only[go_sem,Mi,Mm];refine akr pre X post n cu o b c ho hX hn s _ H _ ?_ ?_ ?_ q ?_
 iterate 3 simp only[go_sem]
 intro v x i k e hi h j l a;have f:cu/10^k<10^i:=by rw[s8 (gE ai),<-iB,e];exact r
 have t:cu/10^k<100000000:=fy f (c5 (iI ai (aa:i<=8)) ai);have u:aE .u32 ((cu/10^k:Nat):Int)=((cu/10^k:Nat):Int):=iU _ ⟨w9 _,s3.2 (rZ t ai)⟩;rw[gb];simp only[go_sem,Ml,j,u];refine akq pre X post n cu o b c ho hX hn i k _ e hi rfl f _ _ _ ?_ ?_ ?_ a.at ?_
 iterate 3 simp only[go_sem,h,l]
 intro w y d;simp only[go_sem];have m:lR pre X post 0 (dp n cu)=cV (pre++dp n cu++post):=by unfold lR;rw[vM,hU]
 rw[m]at d;exact a.trans d
end
def aqm:∀L:Fin 65,2^L.val<=10^(L.val*78913/262144+1)/\(L.val*78913/262144=0\/10^(L.val*78913/262144-1)<=2^(L.val-1))/\L.val*78913/262144<20:=ai
def asr:∀k:Fin 20,og.getD k.val 0=10^k.val:=ai
def aql(L:Nat)(c:L<=64):bm 350 [aj L] (aj (L*78913/262144:Nat)):=by
 refine dM (.f1 .ii) (.int _ _) (bg aoZ ?_);have b:aE .i64 ((L:Int)*78913)=((L*78913:Nat):Int):=by rw[aK _ aa];omega
 have a:tU ((L*78913:Nat):Int) (ej 18 (h_ .i64))=((L*78913/262144:Nat):Int):=rfl;simp only[go_sem,d350,afO,b,a]
def Wu(x:Bool):bm 351 [.bool x] (aj (if x then 1 else 0)):=by
 refine dM (.f1 .bb) (.int _ _) (bg ao0 ?_);cases x
 .simp only[go_sem,d351,OO,afP];rfl
 .simp only[go_sem,d351,OO]
def are(n:d=fk a)(p:1<=a)(q:d<=64)(o:m=d*78913/262144):a<10^(m+if 10^m<=a then 1 else 0)/\(m+if 10^m<=a then 1 else 0)=af (dec a)/\m<20:=by
 obtain⟨j,k,f⟩:=aqm ⟨d,aa⟩;simp only[<-o]at j k f;have g:=R3 a;have h:=R2 (n:=a) aa;rw[<-n]at g h;by_cases c:10^m<=a
 .rw[ay c];have b:a<10^(m+1):=fy g j;refine⟨b,?_,f⟩;rw[<-y7 (mA m) (.inr c) b,HQ]
 .rw[ao c,dG];have b:a<10^m:=uC c;refine⟨b,?_,f⟩;have i:m≠0:=λe=>by rw[e,r0]at b;omega
  have l:10^(m-1)<=a:=c5 (k.resolve_left i) h;rw[<-y7 (lC i) (.inr l) b,HQ]
def SD(u:Nat)(l:1<=u)(i:u<18446744073709551616):cU 292 [aC u] (aj ((af (dec u):Nat):Int)):=by
 refine dg (.f1 .ii) (bg aoK ?_);have a:fk u<=64:=Ee i;obtain⟨L,c⟩:∃L,L=fk u:=⟨_,rfl⟩;have f:=R1 u i;rw[<-c]at a f;obtain⟨k,d⟩:∃k,k=L*78913/262144:=⟨_,rfl⟩;have g:=aql L a;rw[<-d]at g;obtain⟨_,p,b⟩:=are c l a d;have h:=asr ⟨k,b⟩;simp only at h;simp(disch:=omega)only[go_sem,d292,aeo];refine use f ?_;simp(disch:=omega)only[go_sem];refine use g ?_;have m:dO (some 20) 1 [.ptr 0 0,aj k]=some (.val (.ptr 0 k)):=by rw[Ro aa,cg,eW,eD]
 have j:=e5.og;have n:dw (yt og) k=some (aC (10^k:Nat)):=by rw[iu,yt,hY,c4 (show k<af og from b),<-h,bT,c4 (show k<af og from b)];rfl
 have o:aE .i64 ((k:Int)+(if(!decide (((u:Nat):Int)<((10^k:Nat):Int)))=true then 1 else 0))=((af (dec u):Nat):Int):=by
  rw[<-p];by_cases e:10^k<=u
  .rw[ay e,bP aa,ay ai,aK _ aa];rfl
  .rw[ao e,b3 aa,ao ai,aK _ aa];rfl
 simp(disch:=omega)only[go_sem,aen,m,j,n];refine use (Wu _) ?_;simp only[go_sem,o];exact bO e5 rfl (.int _ _)
def auA:∀n:Fin 10,(Dr.drop n.val).take 1=dp 1 n.val:=ai
def auB:∀n:Fin 100,(lu.drop (n.val*2)).take 2=dp 2 n.val:=ai
def T5{a:IntKind}{h:Int}(b:0<=q/\q<=h/\h<=af C):slice3 ov true true false [.str C,.int p q,.int a h]=some (.val (.str ((C.drop q.toNat).take (h.toNat-q.toNat)))):=by show yj C (some (.int p q)) (some (.int a h))=_;exact J' (tq (nr p b.1) (nr a aa) aa aa) aa aa
def TW(n:Nat)(h:n<100):bm 291 [aj n] (.str (dec n)):=by
 refine dM (.f1 .ii) (.str _) (bg aoJ ?_);by_cases b:n<10
 .have a:slice3 ov true true false [.str Dr,aj n,aj ((n:Int)+1)]=some (.val (.str (dec n))):=by have hl:(af Dr:Int)=36:=rfl;rw[T5 aa,cg,(aa:((n:Int)+1).toNat-n=1)];rw[auA ⟨n,b⟩,y7 ai (.inl rfl) (by simpa using b)]
  simp(disch:=omega)only[go_sem,Gl,Gm,dt,aK,a]
 .have a:slice3 ov true true false [.str lu,aj ((n:Int)*2),aj ((n:Int)*2+2)]=some (.val (.str (dec n))):=by have hl:(af lu:Int)=200:=rfl;rw[T5 aa,(aa:((n:Int)*2+2).toNat-((n:Int)*2).toNat=2),(aa:((n:Int)*2).toNat=n*2)];rw[auB ⟨n,h⟩,y7 ai (.inr (by show 10^1<=n;omega)) (by show n<10^2;omega)]
  simp(disch:=omega)only[go_sem,Gl,Gm,Mh,df,aK,a]
theorem EY:slice3 (ou a d) false true false [.ptr m 0,.int p q]=slice3 (kG d) false true false [.slice m 0 a (.known a),.int p q]:=rfl
theorem aum{b:IntKind}{h:Int}:slice3 (ou a d) true true false [.ptr m 0,.int p q,.int b h]=slice3 (kG d) true true false [.slice m 0 a (.known a),.int p q,.int b h]:=rfl
inductive fA (H:ah):V->List UInt8->Nat->Nat->Bool->Prop
 |n8 {v:V}{l:List UInt8}{g m:Nat} (h:bn H 1 v (cV l) g) (hm:m<=1000000000):fA H v l g m false
 |bM {b n:Nat}{l rest:List UInt8} (hb:H.get b=.cells (cV (l++rest)) 0) (hn:af l+af rest=n) (h0:b<H.ag) (h5:b≠0) (hm:n<=1000000000):fA H (.slice b 0 (af l) (.known n)) l b n true
structure jF (k k':Nat) (H H':ah):Prop where
 key:k'=k\/k=0/\H.ag<k'
 keep:∀y,y<H.ag->(k=0\/y≠k)->H'.get y=H.get y
 ag:H.ag<=H'.ag
theorem jF.refl(k:Nat)(H:ah):jF k k H H:=⟨.inl rfl,λ_ _ _=>rfl,aJ _⟩
variable{I:ah}
def jF.trans{g:ah}(h:jF a d b I)(c:jF d m I g):jF a m b g:=by
 have n:=h.ag;refine⟨?_,λy l i=>?_,c5 h.ag c.ag⟩
 .rcases h.key with e|⟨e,j⟩
  .rcases c.key with f|⟨f,k⟩
   .exact .inl aa
   .exact .inr ⟨aa,aa⟩
  .rcases c.key with f|⟨f,k⟩
   .exact .inr ⟨e,aa⟩
   .omega
 .rw[<-h.keep y l i];refine c.keep y aa ?_;rcases h.key with e|⟨e,j⟩
  .rw[e];exact i
  .exact .inr aa
def jF.after{H:ah}(h:jF a d b I)(c:∀y,y<H.ag->b.get y=H.get y)(g:H.ag<=b.ag):jF a d H I:=by
 refine⟨?_,λy i f=>(h.keep y aa f).trans (c y i),c5 g h.ag⟩;rcases h.key with e|⟨e,j⟩
 .exact .inl e
 .exact .inr ⟨e,aa⟩
def fA.low{H':ah}{v:V}{key:Nat}(h:fA b v C key a n)(e:∀z,z<b.ag->H'.get z=b.get z)(f:b.ag<=H'.ag):fA H' v C key a n:=by
 cases h with
 |n8 h c=>exact .n8 (h.low e f) c
 |bM i hl d g c=>exact .bM (by rw[e _ d];exact i) hl (fy d f) g c
def fA.push{v:V}{key:Nat}(h:fA b v C key a n)(o:dU):fA (b.push o) v C key a n:=h.low (λz c=>by rw[ah.bl,ao aa]) (s9 _)
theorem tv(l m:aW):cV (l++m)=cV l++cV m:=by simp[cV]
def Lg(l:aW):dI (cV l)=true:=tj.2 λv h=>by simp only[cV,g8]at h;obtain⟨c,_,rfl⟩:=h;rfl
def akk:eu b 1 (af C) (.str C)=some (cV C):=by
 show aX (bt 1 1) (aq (cW C (af C)) λt=>some (lmap (λc=>V.int .u8 (.ofNat c.toNat)) t))=_;rw[fB,ay (aJ _),dr (aJ _)];show some (lmap (λc=>V.int .u8 (.ofNat c.toNat)) C)=_;congr 1;induction C with
 |nil=>rfl
 |cons a C d=>exact congrArg (List.cons _) d
variable{l:V}
theorem Cj{K:cm}{v:V}{s:aW}{key:Nat}(h:fA b v C key a n)(o:lI l=some (af s))(p:eu b 1 (af s) l=some (cV s))(m:af s≠0)(E:af C+af s<=a)(b_:b.ag≠0)
 (r:∀g f t,fA f g (C++s) t a n->jF key t b f->K (put j x g) f):gW x K j (fU 1 1 [v,l] b):=by
 cases h with
 |n8 h i=>refine HW (bytes:=1) h o p m (by rw[j6,eD]) ai (Lg s) ⟨by rw[j6,j6];omega,ai⟩ b_ ?_;intro g f A J Q bX R;refine r g f A (.n8 (by rw[tv];exact J) i) ⟨?_,bX,aa⟩;omega
 |bM B hl D q i=>
  rename_i k;obtain⟨d,c,rfl,F⟩:∃d c,k=d++c/\af d=af s:=⟨k.take (af s),k.drop (af s),(p6 _ _).symm,jq aa⟩;have z:fU 1 1 [.slice key 0 (af C) (.known a),l] b=some (.slice key 0 (af (C++s)) (.known a),b.set key (an (cV (C++s++c)) 0)):=by
   show aq (lI l) (λu=>aq (eu b 1 u l) λL=>ku 1 1 (.slice key 0 (af C) (.known a)) u L b)=_;rw[o];show aq (eu b 1 (af s) l) _=_;rw[p];show Bool.casesOn (motive:=λ_=>Option (V×ah)) (fN (af s)) (aX (jx (af C+af s) 1) (Bool.casesOn (motive:=λ_=>Option (V×ah)) (b6 (af C+af s) a) (aq (b.dz key 0 (af C*1)) λM=>lG b 1 (af C+af s) (dJ M (cV s))) (aq (b.fe key (0+af C*1) (cV s)) λb=>some (V.slice key 0 (af C+af s) (.known a),b)))) (some (.slice key 0 (af C) (.known a),b))=_;have H:b.fe key (0+af C*1) (cV s)=some (b.set key (an (cV (C++s++c)) 0)):=by
    unfold ah.fe;rw[B];show aX (dI (cV s)) (aq (dj (cV s) (cV (C++(d++c))) (0+af C*1)) λw=>some (b.set key (an w 0)))=_;rw[Lg];have G:dj (cV s) (cV (C++(d++c))) (0+af C*1)=some (cV (C++s++c)):=by
     rw[mH,ay (by rw[j6,j6];simp;omega)];congr 1;rw[eW,eD,j6];have N:(cV (C++(d++c))).take (af C)=cV C:=by grind [tv,j6,vL]
     have O:(cV (C++(d++c))).drop (af C+af s)=cV c:=by rw[<-gX,tv,show af C+af s=af (cV (C++d)) by rw[j6,bw,F],List.drop_left]
     rw[N,O,tv,tv]
    rw[G];rfl
   rw[sv m,q5 ⟨aa,aa⟩,lD E,H,bw];rfl
  rw[z];refine r _ _ key (.bM (rest:=c) jE (by simp at hl⊢;omega) D q i) ⟨.inl rfl,λy P I=>?_,aJ _⟩;rw[ah.aT,ao (λe=>(I.resolve_left q) e.symm)]
def dec_lt(u:Nat):u<10^(af (dec u)):=by have:=uQ (dec u) (vY u);rw[sk]at this;exact this
def xH(u:Nat):0<af (dec u):=by
 have:=uO u;cases h:dec u with
 |nil=>exact absurd h this
 |cons a l=>simp
def PU(u:Nat):dp (af (dec u)) u=dec u:=by
 refine y7 (xH u) ?_ (dec_lt u);by_cases a:af (dec u)=1
 .exact .inl a
 .refine .inr (k4 λd=>?_);have f:=xH u;have b:u≠0:=λe=>by rw[e]at a;exact a rfl
  have c:dec u=ds u:=ao b;have:=qZ d;rw[<-c]at this;omega
def HK(h:a<18446744073709551616):af (dec a)<=20:=by
 unfold dec;split
 .decide
 .exact qZ (k:=20) (rZ h ai)
theorem KL:[V.int .u8 0,.int .u8 0,.int .u8 0,.int .u8 0,.int .u8 0,.int .u8 0,.int .u8 0,.int .u8 0,.int .u8 0,.int .u8 0,.int .u8 0,.int .u8 0,.int .u8 0,.int .u8 0,.int .u8 0,.int .u8 0,.int .u8 0,.int .u8 0,.int .u8 0,.int .u8 0,.int .u8 0,.int .u8 0,.int .u8 0,.int .u8 0]=cV (aZ 24 0):=rfl
def ati(h:a<=d):aZ d (0:UInt8)=[]++aZ a 0++aZ (d-a) 0:=by rw[fS,List.replicate_append_replicate,Nat.add_sub_cancel' h]
variable{f:Type}
def aqf(l:List f):c_ l=af l:=by
 induction l with
 |nil=>rfl
 |cons a l b=>show Nat.succ (c_ l)=_;rw[b];rfl
def wk(h:jF a d b I)(c:GT b)(e:5<=b.ag)(f:a=0\/5<=a):GT I:=c.keep λy g=>h.keep y aa aa
def F8(u:Nat)(e:u<18446744073709551616){v:V}{key:Nat}(H:ah)(hT:fA H v C key a n)(j:af C+af (dec u)<=a)(q:GT H)(p:5<=H.ag):dm 295 [v,aC u,aj 10] H λt h=>∃b,fA h t (C++dec u) b a n/\jF key b H h:=by
 refine pD Go.Proofs.YtddhncjmaahodaaGreatDoor.hT b_ fI RE.1 RE.2 rfl ?_;have z:=xH u;by_cases m:u<100
 .have w:aE .i64 ((u:Nat):Int)=(u:Int):=aK _ aa;simp(disch:=omega)only[go_sem,d295,Ok,decide_true,dt,w];refine use (TW u m) ?_;simp only[go_sem];refine Cj hT (s:=dec u) (by show some (c_ (dec u))=_;rw[aqf]) akk aa j aa ?_;intro s l b f g;simp only[go_sem];exact⟨b,f,g⟩
 .have o:=HK e;simp(disch:=omega)only[go_sem,d295,Ok,decide_true,df];rw[KL];refine bq (SD u aa e) (q.push p _) ?_;have k:slice3 (ou 24 1) false true false [.ptr H.ag 0,aj ((af (dec u):Nat):Int)]=some (.val (.slice H.ag 0 (af (dec u)) (.known 24))):=by rw[EY,tV aa,cg]
  simp only[go_sem,k];refine(QJ [] (aZ (af (dec u)) 0) (aZ (24-af (dec u)) 0) (af (dec u)) u 0 H.ag (.known 24) rfl (ux ..) o e (dec_lt u) _ ?_).mono ?_
  .rw[ah.bl,ay rfl,ati (aa:af (dec u)<=24)]
  rintro _ d c;rw[PU,fS]at c;have r:=c.at;have i:∀y,y<H.ag->d.get y=H.get y:=λy A=>by rw[c.get,ao aa,ah.bl,ao aa]
  have x:d.ag=H.ag+1:=c.ag;simp only[go_sem,k];refine Cj (hT.low i aa) (s:=dec u) rfl ?_ aa j aa ?_
  .show d.dz H.ag 0 (af (dec u)*1)=_;rw[fO r,dQ,eD,tv,fB,ay (by rw[bw,j6];omega),Am (by rw[j6];exact aJ _),dr (by rw[j6];exact aJ _)]
  intro s l b f g;simp only[go_sem];exact⟨b,f,g.after i aa⟩
def Ll(u:Nat)(h:u<18446744073709551616){v:V}{key:Nat}(H:ah)(hT:fA H v C key a n)(g:af C+af (dec u)<=a)(f:GT H)(e:5<=H.ag):dm 296 [v,aC u,aj 10] H λd c=>∃b,fA c d (C++dec u) b a n/\jF key b H c:=by refine pD Go.Proofs.YtddhncjmaahodaaGreatDoor.hT b_ fI RF.1 RF.2 rfl ?_;simp only[go_sem,d296,aep];refine(F8 u h H hT g f e).mono ?_;rintro d c ⟨b,i,j⟩;simp only[go_sem];exact⟨b,i,j⟩
def zt(z:Int):aW:=(if z<0 then [45]else [])++dec z.natAbs
theorem KM(h:q<0):zt q=45::dec q.natAbs:=by unfold zt;rw[ay h];rfl
def Cv(h:¬q<0):zt q=dec q.natAbs:=by unfold zt;rw[ao h];rfl
def z9{H:ah}{K:cm}{v:V}{key:Nat}(h:fA H v C key a n)(c:UInt8)(g:af C+1<=a)(b_:H.ag≠0)(i:q=(c.toNat:Int))
 (f:∀e b d,fA b e (C++[c]) d a n->jF key d H b->K (put j x e) b):gW x K j (fU 1 1 [v,.slice H.ag 0 1 (.known 1)] (H.push (an [.int .u8 q] 0))):=by
 subst i;refine Cj (h.push _) (s:=[c]) rfl ?_ (Nat.succ_ne_zero _) g (by show H.ag+1≠0;omega) ?_
 .show(H.push (an [V.int .u8 (c.toNat:Int)] 0)).dz H.ag 0 (1*1)=some (cV [c]);rw[fO (cs:=cV [c]) (by rw[ah.bl,ay rfl];rfl),dQ];rfl
 .intro e b d k l;exact f e b d k (l.after (λy m=>by rw[ah.bl,ao aa]) (s9 _))
theorem VO(z:Int)(x: -9223372036854775808<=z/\z<9223372036854775808){v:V}{key:Nat}(H:ah)(hT:fA H v C key a n)(d:af C+af (zt z)<=a)(l:GT H)(k:5<=H.ag)(q:key=0\/5<=key):dm 230 [v,aj z,aj 10] H λi c=>∃b,fA c i (C++zt z) b a n/\jF key b H c:=by
 refine pD Go.Proofs.YtddhncjmaahodaaGreatDoor.hT b_ fI RB.1 RB.2 rfl ?_;by_cases m:z<0
 .obtain⟨u,rfl⟩:∃u:Nat,z= -(u:Int):=⟨z.natAbs,aa⟩;have j:aE .u64 (-(u:Int))=((18446744073709551616-u:Nat):Int):=by rw[hN];omega
  have s:aE .u64 (-((18446744073709551616-u:Nat):Int))=(u:Int):=by rw[hN];omega
  rw[KM m,pY,eU]at d⊢;simp only[dZ]at d;simp(disch:=omega)only[go_sem,d230,N2,N1,dt,j];refine z9 hT 45 aa aa rfl ?_;intro y p b r e;simp(disch:=omega)only[go_sem,N0,s];have t:b=0\/5<=b:=by rcases e.key with h|⟨_,h⟩<;>omega
  have w:=e.ag;refine(F8 u aa p r e7 (wk e l k q) aa).mono ?_;rintro i c ⟨g,o,f⟩;simp only[go_sem];refine⟨g,?_,e.trans f⟩
  grind
 .obtain⟨u,rfl⟩:∃u:Nat,z=(u:Int):=⟨z.natAbs,aa⟩;have j:aE .u64 ((u:Nat):Int)=(u:Int):=cz _ aa;rw[Cv m,eU]at d⊢;simp(disch:=omega)only[go_sem,d230,N2,N1,N0,df,j];refine(F8 u aa H hT d l k).mono ?_;rintro i c ⟨g,o,f⟩;simp only[go_sem];exact⟨g,o,f⟩
def Li(z:Int)(i: -9223372036854775808<=z/\z<9223372036854775808){v:V}{key:Nat}(H:ah)(hT:fA H v C key a n)(h:af C+af (zt z)<=a)(f:GT H)(e:5<=H.ag)(g:key=0\/5<=key):dm 162 [v,aj z,aj 10] H λd c=>∃b,fA c d (C++zt z) b a n/\jF key b H c:=by refine pD Go.Proofs.YtddhncjmaahodaaGreatDoor.hT b_ fI Rv.1 Rv.2 rfl ?_;simp only[go_sem,d162,aa_];refine(VO z i H hT h f e g).mono ?_;rintro d c ⟨b,j,k⟩;simp only[go_sem];exact⟨b,j,k⟩
theorem atj(h:a<=20):aZ 24 (0:UInt8)=[0]++aZ a 0++aZ (23-a) 0:=by grind [List.replicate_append_replicate]
def Kr{H:ah}{o n:Nat}{c:Cap}{pre s post:aW}(h:H.get a=an (cV (pre++s++post)) 0)(e:af pre=o)(d:af s=n):vt [.slice a o n c] H=some (.str s):=by
 show aq (H.dz a o n) (λb=>aq (bytesOf b) λs=>some (V.str s))=_;have hl:H.dz a o n=some (cV s):=by unfold ah.dz ah.cells?;rw[h];show cW (eH (cV (pre++s++post)) o) n=_;rw[l8,gX,tv,<-e,<-j6 pre,List.drop_left,tv,fB,ay (by rw[bw,j6];omega),<-d,<-j6 s,vL]
 rw[hl];show aq (bytesOf (cV s)) _=_;rw[Gk];rfl
theorem aku(z:Int)(F: -9223372036854775808<=z/\z<9223372036854775808):cU 229 [aj z,aj 10] (.str (zt z)):=by
 refine dg (.f2 .ii .ii) (pD Go.Proofs.YtddhncjmaahodaaGreatDoor.hT b_ fI RA.1 RA.2 rfl ?_);obtain⟨u,E⟩:∃u,u=z.natAbs:=⟨_,rfl⟩;by_cases m:0<=z/\z<100
 .obtain⟨B,m⟩:=m;have e:¬z<0:=aa;have b:z=(u:Int):=aa;subst b;simp(disch:=omega)only[go_sem,d229,GY,decide_true,dt,df];refine use (TW u aa) ?_;simp only[go_sem];rw[Cv e,eU];exact bO e5 rfl (.str _)
 .have w:1<=u:=aa;have k:u<18446744073709551616:=aa;have D:=xH u;have n:=HK k;have p:=SD u w k;have f:aE .i64 ((1:Int)+((af (dec u):Nat):Int))=((1+af (dec u):Nat):Int):=by rw[aK _ aa];omega
  have j:slice3 (ou 24 1) true true false [.ptr 5 0,aj 1,aj ((1+af (dec u):Nat):Int)]=some (.val (.slice 5 1 (af (dec u)) (.known 23))):=by rw[aum,E0 aa];congr 3;omega
  have t:slice3 (ou 24 1) false true false [.ptr 5 0,aj ((1+af (dec u):Nat):Int)]=some (.val (.slice 5 0 (1+af (dec u)) (.known 24))):=by grind [EY,tV,cg]
  have d:GT (dV.push (an (cV (aZ 24 0)) 0)):=e5.push ai _;have r:(dV.push (an (cV (aZ 24 0)) 0)).get 5=an (cV ([0]++aZ (af (dec u)) 0++aZ (23-af (dec u)) 0)) 0:=by rw[ah.bl,ay I5,atj n]
  have g:=QJ [0] (aZ (af (dec u)) 0) (aZ (23-af (dec u)) 0) (af (dec u)) u 1 5 (.known 23) rfl (ux ..) n k (dec_lt u) _ r;rw[PU]at g;by_cases e:z<0
  .have b:z= -(u:Int):=aa;subst b;have l:aE .u64 (-(u:Int))=((18446744073709551616-u:Nat):Int):=by rw[hN];omega
   have A:aE .u64 (-((18446744073709551616-u:Nat):Int))=(u:Int):=by rw[hN];omega
   have C:(-(u:Int))<0:=e;simp(disch:=omega)only[go_sem,d229,GY,decide_true,dt,l,A];rw[KL];refine bq p d ?_;simp(disch:=omega)only[go_sem,f,j];refine g.mono ?_;rintro _ c a;have q:=a.at;have s:dO (some 24) 1 [.ptr 5 0,aj 0]=some (.val (.ptr 5 0)):=rfl;have v:dj [V.int .u8 45] (cV ([0]++dec u++aZ (23-af (dec u)) 0)) 0=some (cV ([45]++dec u++aZ (23-af (dec u)) 0)):=by rw[fE (by rw[j6];simp)];rfl
   have o:=a.set (cV ([45]++dec u++aZ (23-af (dec u)) 0));have i:=Kr (c:=.known 24) (pre:=[]) (s:=[45]++dec u) (post:=aZ (23-af (dec u)) 0) (H:=c.set 5 (an (cV ([45]++dec u++aZ (23-af (dec u)) 0)) 0)) (o:=0) (n:=1+af (dec u)) o.at rfl e7;have h:GT (c.set 5 (an (cV ([45]++dec u++aZ (23-af (dec u)) 0)) 0)):=d.keep λy x=>by rw[o.get,ao aa]
   simp(disch:=omega)only[go_sem,dt,s,q,v,f,t,i];refine bO h ?_ (.str _)
   grind [KM,pY,eU]
  .have b:z=(u:Int):=aa;subst b;have l:aE .u64 ((u:Nat):Int)=(u:Int):=cz _ aa;simp(disch:=omega)only[go_sem,d229,GY,decide_true,df,l];rw[KL];refine bq p d ?_;simp(disch:=omega)only[go_sem,f,j];refine g.mono ?_;rintro _ c a;have i:=Kr (c:=.known 23) (o:=1) a.at rfl (n:=af (dec u)) rfl;have h:GT c:=d.keep λy x=>by rw[a.get,ao aa]
   simp(disch:=omega)only[go_sem,df,f,j,i];refine bO h ?_ (.str _);rw[Cv e,eU]
def QK(z:Int)(a: -9223372036854775808<=z/\z<9223372036854775808):cU 161 [aj z,aj 10] (.str (zt z)):=by refine dg (.f2 .ii .ii) (pD Go.Proofs.YtddhncjmaahodaaGreatDoor.hT b_ fI Ru.1 Ru.2 rfl ?_);simp only[go_sem,d161,aa9];refine bq (aku z a) e5 ?_;simp only[go_sem];exact bO e5 rfl (.str _)
def PV:∀k c,af (dec c)<=k->c<10^k->dp k c=aZ (k-af (dec c)) 48++dec c
 |0,c,h,_=>by
  have:=uO c;cases e:dec c with
  |nil=>exact absurd e this
  |cons a l=>rw[e]at h;simp at h
 |k+1,c,h,j=>by
  by_cases b:af (dec c)=k+1
  .rw[b,nQ,qL,fS];have m:1<=k+1:=mA k;refine y7 m ?_ j;by_cases n:k=0
   .exact .inl aa
   .refine .inr (k4 λf=>?_);rw[vN]at f;have g:c≠0:=λe=>by rw[e]at b;have:af (dec 0)=1:=rfl;omega
    have i:dec c=ds c:=ao g;have:=qZ f;rw[<-i]at this;omega
  .have hl:af (dec c)<=k:=aa;have d:c<10^k:=fy (dec_lt c) (iI ai hl);rw[dp,mw d,PV k c hl d,(aa:k+1-af (dec c)=k-af (dec c)+1),qK];rfl
def awC(M a:av)(n b g:Nat)(hn:af a=n)(P:M.take n=a)(ok:W.aG a)(hl:n<1000000)(F:Fr)(H:ah)(R:b5)(O:dB H b g (aQ M))(K:rd 7 F=.slice b 0 n (.grown 1))(L:rd 9 F=aC 0)(J:rd 10 F=aj ((n:Int)-1))
 (Q:∀s z c,(∀t,t<16->t≠9->t≠10->rd t s=rd t F)->rd 9 s=aC (W.val a%10000000000000000000:Nat)->af c=n->W.aG c->W.val c=W.val a/10000000000000000000->nU H z b g (aQ (c++M.drop n))->R (.exit 2) s z):bK (.loop (pc 354 2)) R F H:=by
 have l:(0:Nat)<10000000000000000000/\10000000000000000000<18446744073709551616:=ai
 refine b8 (λj h e=>∃(r:Nat) (c:av),j<=n/\(∀t,t<16->t≠9->t≠10->rd t h=rd t F)/\rd 9 h=aC r/\rd 10 h=aj ((j:Int)-1)/\W.aG c/\af c=n-j/\r<10000000000000000000/\W.val c*10000000000000000000+r=W.val (a.drop j)/\nU H e b g (aQ (a.take j++c++M.drop n))) n
  ⟨0,[],aJ _,λ_ _ _ _=>rfl,L,J,W.aG.nil,aI,ai,by rw[mR aa];simp[W.val],?_⟩ ?_
 .rw[dr aa,hU,<-P,p6];exact nU.refl O
 rintro j h e ⟨r,c,hj,w,A,k,I,am,o,p,f⟩;have N:=(w 7 ai ai ai).trans K;rw[afW];cases j with
 |zero=>
  simp(disch:=omega)only[go_sem,k,dt];rw[List.drop_zero]at p;rw[vM,fS]at f;refine Q _ _ c (λt u d v=>?_) ?_ aa I ?_ f
  .simp(disch:=omega)only[cX];exact w t u d v
  .simp only[go_sem,A];rw[<-p,dy,Nat.mul_add_mod,jR o]
  .rw[<-p,dy,Nat.mul_add_div l.1,mw o,dG]
 |succ i=>
  have G:=ok.getD i;have hi:(((i+1:Nat):Int)-1)=(i:Int):=aa;rw[hi]at k;have E:=KG l.1 o G;have D:=fD (r*18446744073709551616+a.getD i 0) l.1;have d:=kj (r*18446744073709551616+a.getD i 0) 10000000000000000000;have m:=Dt r (a.getD i 0) 10000000000000000000 o G l.2;have ab:a.take (i+1)=a.take i++[a.getD i 0]:=yo aa;have S:=W.wY (l:=a) (i:=i) aa;generalize(r*18446744073709551616+a.getD i 0)/10000000000000000000=q at E d m
  generalize(r*18446744073709551616+a.getD i 0)%10000000000000000000=r' at D d m
  generalize a.getD i 0=x at*
  have y:af (a.take i)=i:=jq aa;have X:a.take i++[x]++c++M.drop n=a.take i++x::(c++M.drop n):=aI;rw[ab,X]at f;have B:=f.ob;have C:i<af (a.take i++x::(c++M.drop n)):=by rw[bw,y];simp
  have T:=so (es:=c++M.drop n) (e:=x) y;have U:jd false 1 [.ptr b i] e=some (aC x):=by rw[u7 B,eG C,T]
  have Z:qB 1 [.ptr b i,aC q] e=some (V.undef,ah.wr e b g (aQ (a.take i++q::(c++M.drop n)))):=by rw[z0 B (by rw[fo];exact C),lP,nH y]
  have Y:((10000000000000000000:Nat):Int)=10000000000000000000:=rfl;rw[Y]at m;simp(disch:=omega)only[go_sem,afR,N,A,k,df,cH,cg,U];refine use m ?_;simp(disch:=omega)only[go_sem,afQ,k,cH,cg,Z,aK];refine⟨i,aa,r',q::c,aa,λt u d v=>?_,?_,?_,.mk E I,by simp;omega,D,?_,?_⟩
  .simp(disch:=omega)only[cX];exact w t u d v
  iterate 2 simp only[go_sem]
  .rw[S];exact KF d p
  .have:=f.wr (aQ (a.take i++q::(c++M.drop n)));simpa using this
def gm:Nat:=10000000000000000000
def oN(n i:Nat):Nat:=n/gm^i%gm
def MM(n i:Nat):oN n i<gm:=fD _ ai
def bn.apart{v:V}{n:au}(h:bn b a v c d)(g:dB b m D n)(l:d≠D)(k:∀y,y≠m->y≠D->I.get y=b.get y)(w:b.ag<=I.ag):bn I a v c d:=by
 cases h with
 |nil=>exact .nil
 |cells kb i a_ s t A z=>
  rename_i j B f;obtain⟨u,r,x⟩:=g.bV;have o:j≠m:=λe=>by rw[e,g.row]at kb;cases kb;exact l rfl
  have p:j≠D:=λe=>by rw[e,r]at kb;cases kb
  have q:d≠m:=λe=>by rw[e,g.row]at i;cases i
  exact .cells (by rw[k _ o p];exact kb) (by rw[k _ q l];exact i) a_ s t aa aa
def bn.arf{v:V}(h:bn b 1 v c a)(d:af c≠0):a≠0:=by
 cases h with
 |nil=>exact absurd rfl d
 |cells kb g a_ e j i f=>exact e
def bn.Kq{v:V}(h:bn b 1 v c a)(g:a≠0):∃d,v=.slice d 0 (af c) (.grown 1)/\dB b d a c/\d<b.ag/\a<b.ag:=by
 cases h with
 |nil=>exact absurd rfl g
 |cells kb k a_ i m l j=>rename_i d n f;have e:n=af c:=aa;subst e;exact⟨d,rfl,⟨kb,⟨f,k,a_⟩,i⟩,j,l⟩
theorem P6{v:V}(p:bn b 1 v (aQ g) a)(d:Nat)(B:af g<1000000)
 (q:∀e n,bn e 1 (.slice (b.ag+1) 0 (af g+1) (.grown 1)) (aQ (g++[d])) n->(a=0/\b.ag<n\/a≠0/\n=a)->(∀y,y<b.ag->(a=0\/y≠a)->e.get y=b.get y)->b.ag<e.ag->s (put j x (.slice (b.ag+1) 0 (af g+1) (.grown 1))) e):
 gW x s j (fU 1 8 [v,.slice b.ag 0 1 (.known 1)] (b.push (an [aC d] 0))):=by
 by_cases h:a=0
 .have k:v=.aA/\g=[]:=by
   generalize M:aQ g=N at p
   cases p with
   |nil=>grind [fo]
   |cells _ _ _ I _ _ _=>exact absurd h I
  obtain⟨rfl,rfl⟩:=k;obtain⟨c,i⟩:∃c,c=b.push (an [aC d] 0):=⟨_,rfl⟩;have D:∀y,y<b.ag->c.get y=b.get y:=λy l=>by rw[i,ah.bl,ao aa]
  have E:c.get b.ag=an [aC d] 0:=by rw[i,ah.bl,ay rfl]
  have r:c.ag=b.ag+1:=by rw[i];rfl
  rw[<-i];have A:eu c 1 1 (.slice b.ag 0 1 (.known 1))=some [aC d]:=by show c.dz b.ag 0 (1*1)=_;rw[fO E,dQ];rfl
  have t:fU 1 8 [.aA,.slice b.ag 0 1 (.known 1)] c=some (.slice c.ag 0 1 (.grown 1),(c.push (an [aC d] (Nat.succ c.ag))).push (.bV c.ag c.ag)):=by show aq (some 1) (λm=>aq (eu c 1 m (.slice b.ag 0 1 (.known 1))) λJ=>ku 1 8 .aA m J c)=_;show aq (eu c 1 1 (.slice b.ag 0 1 (.known 1))) _=_;rw[A];rfl
  rw[t,r];refine q _ (b.ag+2) ?_ (.inl ⟨h,aa⟩) (λy l _=>?_) ?_
  .refine .cells (f:=b.ag+1) ?_ ?_ (aJ _) aa rfl ?_ ?_
   .rw[ah.bl,ao (by show¬(c.ag+1=b.ag+1);omega),ah.bl,ay r];rfl
   .rw[ah.bl,ay (by show c.ag+1=b.ag+2;omega)]
   .show b.ag+2<c.ag+1+1;omega
   .show b.ag+1<c.ag+1+1;omega
  .rw[ah.bl,ao (by show¬(c.ag+1=y);omega),ah.bl,ao aa];exact D y l
  .show b.ag<c.ag+1+1;omega
 .obtain⟨K,k,w,z,C⟩:=bn.Kq p h;rw[fo]at k;subst k;refine P4 w (dr (aJ _)) rfl B z C d ?_;intro e o u L;obtain⟨f,G,H⟩:=o.bV;refine q e a (.cells o.row G H o.ne (by rw[fo];simp) aa aa) (.inr ⟨h,rfl⟩) (λy l F=>u y l (F.resolve_left h)) aa
theorem Xq(n a o v:Nat)(l:av)(cb:n≠0)(b':af (az n)<40)(F:Fr)(H:ah)(R:b5)(ae:rd 7 F=.slice o 0 (af (az n)) (.grown 1))(al:rd 8 F=.aA)(ar:dB H o v (aQ l))(aw:l.take (af (az n))=az n)(bi:W.aG l)(a0:l.length<1000000)(O:a<=o/\o<H.ag)(P:a<=v/\v<H.ag)(b_:1<=a)
 (hR:∀z s k bQ d,(∀t,t<7->rd t z=rd t F)->n/gm^(k+1)=0->n/gm^k≠0->k<100->rd 8 z=bQ->bn s 1 bQ (aQ ((kZ (k+1)).map (oN n))) d->(∀b m c,bQ=.slice b 0 m c->a<=b)->a<=d->(∀y,y<a->s.get y=H.get y)->a<=s.ag->R (.exit 0) z s):bK (.loop (pc 354 7)) R F H:=by
 refine b8 (λw r f=>∃(i b g d:Nat) (M:av) (bQ:V),rd 7 r=.slice b 0 (af (az w)) (.grown 1)/\dB f b g (aQ M)/\M.take (af (az w))=az w/\W.aG M/\M.length<1000000/\a<=b/\b<f.ag/\a<=g/\g<f.ag/\w=n/gm^i/\rd 8 r=bQ/\bn f 1 bQ (aQ ((kZ i).map (oN n))) d/\d≠g/\(d=0\/a<=d)/\(∀b m c,bQ=.slice b 0 m c->a<=b)/\(∀t,t<7->rd t r=rd t F)/\(∀y,y<a->f.get y=H.get y)/\(i=0\/n/gm^(i-1)≠0)) n
  ⟨0,o,v,0,l,.aA,ae,ar,aw,bi,a0,O.1,O.2,P.1,P.2,by rw[r0,pA],al,.nil,aa,.inl rfl,λ_ _ _ h=>(by cases h),λ_ _=>rfl,λ_ _=>rfl,.inl rfl⟩ ?_
 rintro w r f ⟨i,b,g,d,M,bQ,u,L,N,bj,bs,a2,bv,a6,b0,p,I,C,U,a7,a4,K,S,T⟩;have bd:w<=n:=by rw[p];exact js _ _
 have ca:=nu bd;have b2:i<101:=by
  rcases T with h|h
  .omega
  .refine uC λh1=>h ?_
   have h2:n<gm^(i-1):=by refine fy (pG n) ?_;have J:(18446744073709551616:Nat)^(af (az n))<=(gm^2)^(af (az n)):=Nat.pow_le_pow_left ai _;rw[<-Nat.pow_mul]at J;exact c5 J (iI ai aa)
   exact mw h2
 rw[af8];by_cases x:w=0
 .have a':af (az w)=0:=by rw[x,k9];rfl
  simp(disch:=omega)only[go_sem,u,df];have b1:i≠0:=λe=>by rw[e,r0,pA]at p;omega
  obtain⟨k,rfl⟩:∃k,i=k+1:=⟨i-1,aa⟩;have a8:a<=d:=by exact a7.resolve_left (bn.arf C (by rw[fo];simp))
  refine hR _ _ k bQ d (λt D=>?_) (by rw[<-p];exact x) (T.resolve_left (Nat.succ_ne_zero k)) aa ?_ C a4 a8 S aa
  .simp(disch:=omega)only[cX];exact K t D
  .simp only[go_sem,I]
 .have a':=(j7 w).2 x;simp(disch:=omega)only[go_sem,af7,af6,u,dt,aK];refine awC M (az w) (af (az w)) b g rfl N (g5 w) aa _ _ _ L ?_ ?_ ?_ ?_
  iterate 3 simp only[go_sem,u]
  intro G A q B e3 X ab Y j;rw[g7]at e3 Y;have bp:rd 7 G=.slice b 0 (af (az w)) (.grown 1):=(B 7 ai ai ai).trans (by simp only[go_sem,u]);have hJ:rd 8 G=bQ:=(B 8 ai ai ai).trans (by simp only[go_sem,I]);have cd:A.ag=f.ag:=j.ag;have Q:=bn.apart C L U j.get aa;rw[gb];simp(disch:=omega)only[go_sem,af5,af4,bp];have ba:af (q++M.drop (af (az w)))<1000000:=by have:=congrArg af N;rw[e8]at this;simp;omega
  refine(Fi q (q++M.drop (af (az w))) (af (az w)) X (by rw[<-X,vL]) aa b g A j.ob).mono ?_;rintro _ A ⟨rfl,rfl⟩;simp(disch:=omega)only[go_sem,hJ,e3];refine P6 Q _ e7 λH3 g3 q1 ce E cf=>?_
  simp(disch:=omega)only[go_sem];have Z:=Fj q;rw[nI ab,Y]at Z⊢;obtain⟨ra,bc⟩:=Z;have a9:d=0\/b≠d:=Q.ne j.ob.row;have bb:dB H3 b g (aQ (q++M.drop (af (az w)))):=j.ob.keep (E b aa a9) (E g aa (.inr (λe=>U e.symm)));have ap:1<10000000000000000000:=ai;have a5:w/10000000000000000000=n/gm^(i+1):=by rw[p,dX,qO];rfl
  have a3:aQ ((kZ i).map (oN n)++[w%10000000000000000000])=aQ ((kZ (i+1)).map (oN n)):=by rw[List.range_succ,vJ,p];rfl
  rw[a3]at q1;refine⟨w/10000000000000000000,Nat.div_lt_self (lC x) ap,i+1,b,g,g3,_,_,?_,bb,Jy bc,ab.app (bj.drop _),ba,a2,aa,a6,aa,a5,?_,q1,?_,?_,?_,λt D=>?_,λy hy=>?_,.inr b4⟩
  iterate 2 simp only[go_sem]
  .omega
  .omega
  .grind
  .simp(disch:=omega)only[cX];refine(B t aa aa aa).trans ?_;simp(disch:=omega)only[cX];exact K t D
  .rw[E y aa aa,j.get y aa aa];exact S y hy
def bn.wj{v:V}(h:bn b a v c d)(e:0<b.ag):d<b.ag:=by
 cases h with
 |nil=>exact e
 |cells kb j a_ g k f i=>exact f
def fA.RR{v:V}{key:Nat}(h:fA b v C key a n)(d:0<b.ag):key<b.ag:=by
 cases h with
 |n8 h e=>exact bn.wj h d
 |bM g hl c f e=>exact c
def U1(a:Nat){l:aW}{key m:Nat}{kk:Bool}(F:Fr)(H:ah)(R:b5)(hT:fA H (rd 0 F) l key m kk)(C:af l+a<=m)(z:5<=H.ag)(u:rd 70 F=aj a)(v:rd 71 F=aj 0)(A:a<1000)
 (w:∀f c d,(∀t,t<16->t≠0->rd t f=rd t F)->fA c (rd 0 f) (l++aZ a 48) d m kk->jF key d H c->R (.exit 6) f c):bK (.loop (pc 354 11)) R F H:=by
 refine b8 (λk b g=>∃(i e:Nat),k=a-i/\i<=a/\(∀t,t<16->t≠0->rd t b=rd t F)/\rd 70 b=aj a/\rd 71 b=aj i/\fA g (rd 0 b) (l++aZ i 48) e m kk/\jF key e H g) a ⟨0,key,rfl,cj _,λ_ _ _=>rfl,u,v,by rw[qL,hU];exact hT,jF.refl _ _⟩ ?_;rintro k b g ⟨i,e,rfl,hi,q,h,j,r,p⟩;have D:=p.ag;rw[afS];by_cases B:i<a
 .simp(disch:=omega)only[go_sem,OP,af_,h,j,dt];refine z9 r 48 e7 aa rfl ?_;intro E c d s y;simp(disch:=omega)only[go_sem,af9,j,aK];rw[gX,<-List.replicate_succ']at s;refine⟨a-(i+1),aa,i+1,d,rfl,aa,λt n o=>?_,?_,?_,?_,p.trans y⟩
  .simp(disch:=omega)only[cX];exact q t n o
  .simp only[go_sem,h]
  .simp only[go_sem];rfl
  .simp only[go_sem];exact s
 .have x:i=a:=aa;subst x;simp(disch:=omega)only[go_sem,OP,h,j,df];refine w _ _ e (λt n o=>?_) ?_ p
  .simp(disch:=omega)only[cX];exact q t n o
  .simp only[go_sem];exact r
theorem aq7{a:Nat}(h:q<=0):q6 max2 [aj a,aj q]=some (.val (aj a)):=by
 have e:max2 (aj a) (aj q)=some (aj a):=by
  show some (V.int .i64 (match l7 (a:Int) q with|true=>q|false=>(a:Int)))=_
  grind [qj,bP]
 show aq (aq (max2 (aj a) (aj q)) λa=>some a) (λv=>some (bh.val v))=_;rw[e];rfl
theorem Xp(c:m=oN a d):(a/gm^(d+1)=0->dec (a/gm^d)=dec m)/\(a/gm^(d+1)≠0->dec (a/gm^d)=dec (a/gm^(d+1))++(aZ (19-af (dec m)) 48++dec m)):=by
 have e:a/gm^(d+1)=a/gm^d/gm:=by rw[dX,qO]
 have f:m<gm:=by rw[c];exact MM a d
 have l:m=a/gm^d%gm:=c;rw[e];generalize a/gm^d=x at*
 have b:gm=10^19:=rfl;have k:0<gm:=ai;refine⟨λh=>?_,λh=>?_⟩
 .grind
 .have hl:af (dec m)<=19:=by
   unfold dec;split
   .decide
   .simp_all [qZ]
  rw[<-PV 19 m hl (by rw[<-b];exact f)];have j:x≠0:=λe=>by grind
  have g:dec x=ds x:=ao j;have i:dec (x/gm)=ds (x/gm):=ao h;rw[g,i,<-PX (x/gm) h 19 m (by rw[<-b];exact f),<-b]
  grind
def aiK{a:Nat}(h:a<=d):af (dec a)<=af (dec d):=by
 have b:=xH d;have c:dec a=if a=0 then [48]else ds a:=rfl
 rw[c];split
 .exact b
 .exact qZ (fu h (dec_lt d))
theorem fA.other{v:V}{key bb:Nat}(h:fA b v C key a n)(o:b.get bb=an c 0)(s:key≠bb)(q:∀y,y<b.ag->y≠bb->I.get y=b.get y)(r:b.ag<=I.ag):fA I v C key a n:=by
 cases h with
 |n8 h d=>
  refine .n8 ?_ d;generalize cV C=z at h⊢
  cases h with
  |nil=>exact .nil
  |cells kb u a_ j k w t=>
   rename_i g x f;have l:g≠bb:=λe=>by grind
   exact .cells b4 b4 a_ j k aa aa
 |bM p hl m i d=>exact .bM b4 hl aa i d
set_option maxHeartbeats 1000000 in
theorem avq(G:av)(n k a d bb:Nat)(d':G.length=k+1)(d9:∀i,i<=k->G.getD i 0=oN n i)(l:aW){key m:Nat}{kk:Bool}(F:Fr)(t H:ah)(b2:∀y,y<t.ag->H.get y=t.get y)(b':5<=t.ag/\t.ag<=H.ag)(R:b5)(ex:n/gm^(k+1)=0)(c0:n/gm^k≠0)(hk:k<100)(hm:af l+af (dec n)<=m)(hT:fA H (rd 0 F) l key m kk)(hg:GT H)(h5:5<=H.ag)(eQ:key=0\/5<=key)(X:aW)(hX:X.length=20)
 (e2:rd 2 F=aj 0) (bv:rd 8 F=.slice a 0 (k+1) (.grown 1)) (bo:rd 11 F=.ptr bb 0) (d5:rd 12 F=cY) (d6:rd 13 F=aj k) (ar:dB H a d (aQ G)) (ch:H.get bb=an (cV X) 0) (dd:key<t.ag/\t.ag<=a/\t.ag<=d/\t.ag<=bb) (dk:a<H.ag/\d<H.ag/\bb<H.ag) (e0:5<=bb/\5<=a/\5<=d)
 (hR:∀U V bj,fA V (rd 0 U) (l++dec n) bj m kk->rd 12 U=aR->jF key bj t V->R (.exit 4) U V):bK (.loop (pc 354 14)) R F H:=by
 have ed:bb≠a:=λe=>by
  have:=ar.row
  grind
 have eh:bb≠d:=λe=>by
  obtain⟨f,D,h2⟩:=ar.bV
  grind
 have em:∀j,af (dec (n/gm^j))<=af (dec n):=λj=>aiK (js _ _)
 refine b8 (λj z o=>∃(b:Nat) (O:aW),j<=k+1/\fA o (rd 0 z) (l++if j=k+1 then []else dec (n/gm^j)) b m kk/\jF key b t o/\(b=key\/H.ag<b)/\H.ag<=o.ag/\rd 2 z=aj 0/\rd 8 z=.slice a 0 (k+1) (.grown 1)/\rd 11 z=.ptr bb 0/\rd 12 z=.bool (decide (j=k+1))/\rd 13 z=aj ((j:Int)-1)/\dB o a d (aQ G)/\o.get bb=an (cV O) 0/\O.length=20/\GT o) (k+1)
  ⟨key,X,aJ _,by grind,⟨.inl rfl,λy q _=>b2 y q,b'.2⟩,.inl rfl,aJ _,e2,bv,bo,by grind,by grind,ar,ch,hX,hg⟩ ?_
 rintro j z o ⟨b,O,hj,S,E,a4,fa,Z,f8,Y,K,C,ap,cf,ea,a3⟩;have fb:=E.ag;have c':b≠bb/\b≠a/\b≠d/\(b=0\/5<=b):=by
  obtain⟨d0,P,Q,d1⟩:=dd;obtain⟨b1,d3,d4⟩:=dk;rcases a4 with h|h
  .omega
  .omega
 rw[afU];cases j with
 |zero=>
  simp(disch:=omega)only[go_sem,C];rw[ao aa,r0,pA]at S;refine hR _ _ b ?_ ?_ E
  .simp only[go_sem];exact S
  .simp only[go_sem,K]
   grind
 |succ i=>
  have cs:(((i+1:Nat):Int)-1)=(i:Int):=aa;rw[cs]at C;obtain⟨B,cd⟩:∃T,T=(if i+1=k+1 then []else dec (n/gm^(i+1))):=⟨_,rfl⟩;rw[<-cd]at S;obtain⟨c,hc⟩:∃c,c=oN n i:=⟨_,rfl⟩;have bi:c<gm:=by rw[hc];exact MM n i
  have ci:c<18446744073709551616:=rZ bi ai;have el:af (dec c)<=19:=by
   unfold dec;split
   .decide
   .exact qZ (k:=19) bi
  obtain⟨fg,fi⟩:=Xp hc;have cp:G.getD i 0=c:=b4;have da:jd false 1 [.ptr a i] o=some (aC c):=by rw[u7 ap,eG aa,cp]
  have dt:slice3 (ou 20 1) false true false [.ptr bb 0,aj 0]=some (.val (.slice bb 0 0 (.known 20))):=by rw[EY,tV aa];rfl
  have cb:fA o (.slice bb 0 0 (.known 20)) [] bb 20 true:=.bM (l:=[]) (rest:=O) b4 e7 aa aa ai;simp(disch:=omega)only[go_sem,afT,f8,Y,C,df,dt,cH,cg,da];refine(Ll c ci o cb e7 a3 aa).mono ?_;rintro vd p ⟨kb,a0,am⟩;rw[fS]at a0;have c2:kb=bb:=by rcases am.key with h|⟨h,_⟩<;>omega
  subst c2;obtain⟨A,b0,bd,fd⟩:∃A,vd=.slice kb 0 (af (dec c)) (.known 20)/\p.get kb=an (cV (dec c++A)) 0/\af (dec c)+af A=20:=by
   cases a0 with
   |bM hb hl h0 h5 hm=>grind
  subst b0;clear a0;have w:∀y,y<o.ag->y≠kb->p.get y=o.get y:=λy q N=>am.keep y q (.inr N)
  have dl:=am.ag;have ba:=S.other cf c'.1 w dl;have eq:=xH c;have e1:H.ag<=p.ag:=aa;have bc:∀W,(B++(aZ W 48++dec c))=dec (n/gm^i)->af l+B.length+W+af (dec c)<=m:=λW h=>by grind
  by_cases es:i=k
  .have a6:(B++(aZ 0 48++dec c))=dec (n/gm^i):=by grind
   have ds:=bc 0 a6;have a2:decide (i+1=k+1)=true:=b3 aa;have dq:(0:Int)-19*(i:Int)<=0:=aa;have du:aE .i64 ((19:Int)*(i:Int))=19*(i:Int):=aK _ aa;have dv:aE .i64 ((0:Int)-19*(i:Int))=0-19*(i:Int):=aK _ aa;have a7:aE .i64 (((af (dec c):Nat):Int)-((af (dec c):Nat):Int))=((0:Nat):Int):=by rw[aK _ aa];omega
   rw[a2]at K;simp(disch:=omega)only[go_sem,Z,K,C,du,dv,aq7 dq,a7];refine U1 (0) (l:=l++B) (key:=b) (m:=m) (kk:=kk) _ p _ ?_ ?_ aa ?_ ?_ aa ?_
   .simp only[go_sem];exact ba
   .grind
   iterate 2 simp only[go_sem]
   intro u I s v aw g;have hJ:rd 8 u=.slice a 0 (k+1) (.grown 1):=(v 8 ai ai).trans (by simp only[go_sem,f8]);have g2:rd 2 u=aj 0:=(v 2 ai ai).trans (by simp only[go_sem,Z]);have qh:rd 11 u=.ptr kb 0:=(v 11 ai ai).trans (by simp only[go_sem,Y]);have uW:rd 13 u=aj i:=(v 13 ai ai).trans (by simp only[go_sem,C]);have tI:rd 14 u=.slice kb 0 (af (dec c)) (.known 20):=(v 14 ai ai).trans eJ;have a1:I.get kb=an (cV (dec c++A)) 0:=by rw[g.keep kb aa aa];exact bd
   have dp:=g.ag;rw[gb];simp(disch:=omega)only[go_sem,tI];refine Cj aw (s:=dec c) rfl ?_ aa ?_ aa ?_
   .show I.dz kb 0 (af (dec c)*1)=_;rw[fO a1,dQ,eD,tv,fB,ay (by grind [bw,j6]),Am (by rw[j6];exact aJ _),dr (by rw[j6];exact aJ _)]
   .grind
   intro v' J x k1 r;simp(disch:=omega)only[go_sem,OQ,uW,aK];have c1:s≠kb/\s≠a/\s≠d:=by
    rcases g.key with h|⟨_,h⟩
    .omega
    .omega
   have L:∀y,y<p.ag->y≠b->y≠s->J.get y=p.get y:=λy q D h3=>(r.keep y aa (.inr h3)).trans (g.keep y q (.inr D))
   have a5:x=key\/H.ag<x:=by
    rcases(g.trans r).key with h|⟨h,h'⟩
    .rw[h];exact a4
    .exact .inr aa
   have al:jF key x t J:=by
    have M:=g.trans r;refine⟨?_,λy q a'=>?_,by have:=r.ag;omega⟩
    .rcases M.key with h|⟨h,h'⟩
     .rw[h];exact E.key
     grind
    .by_cases N:y=kb
     .omega
     .have a8:b=0\/y≠b:=by grind
      rw[M.keep y aa a8,w y aa N];exact E.keep y q a'
   refine⟨i,aa,x,dec c++A,aa,?_,al,a5,by have:=r.ag;omega,?_,?_,?_,?_,?_,?_,?_,by grind,?_⟩
   .simp only[go_sem]
    grind
   iterate 3 simp only[go_sem,g2,hJ,qh]
   .simp only[go_sem];simp_all
   .simp only[go_sem]
   .have P:p.get a=o.get a:=w a aa aa;have Q:p.get d=o.get d:=w d aa aa;exact ap.keep ((L a aa aa aa).trans P) ((L d aa aa aa).trans Q)
   .grind
   .refine a3.keep λy q=>?_
    have a9:s=0\/y≠s:=by rcases g.key with h|⟨_,h⟩<;>omega
    rw[r.keep y aa a9,g.keep y aa aa,w y aa aa]
  .have a6:(B++(aZ (19-af (dec c)) 48++dec c))=dec (n/gm^i):=by
    have e':n/gm^(i+1)≠0:=λe=>by
     have D:n<gm^(i+1):=by
      rcases rY n (gm^(i+1))with h|h
      .exact h
      .simp_all;omega
     exact c0 (mw (fy D (iI ai aa)))
    grind
   have ds:=bc (19-af (dec c)) a6;have a2:decide (i+1=k+1)=false:=bP aa;have a7:aE .i64 ((19:Int)-((af (dec c):Nat):Int))=((19-af (dec c):Nat):Int):=by rw[aK _ aa];omega
   rw[a2]at K;simp(disch:=omega)only[go_sem,K,a7];refine U1 (19-af (dec c)) (l:=l++B) (key:=b) (m:=m) (kk:=kk) _ p _ ?_ ?_ aa ?_ ?_ aa ?_
   .simp only[go_sem];exact ba
   .grind
   iterate 2 simp only[go_sem]
   intro u I s v aw g;have hJ:rd 8 u=.slice a 0 (k+1) (.grown 1):=(v 8 ai ai).trans (by simp only[go_sem,f8]);have g2:rd 2 u=aj 0:=(v 2 ai ai).trans (by simp only[go_sem,Z]);have qh:rd 11 u=.ptr kb 0:=(v 11 ai ai).trans (by simp only[go_sem,Y]);have uW:rd 13 u=aj i:=(v 13 ai ai).trans (by simp only[go_sem,C]);have tI:rd 14 u=.slice kb 0 (af (dec c)) (.known 20):=(v 14 ai ai).trans eJ;have a1:I.get kb=an (cV (dec c++A)) 0:=by rw[g.keep kb aa aa];exact bd
   have dp:=g.ag;rw[gb];simp(disch:=omega)only[go_sem,tI];refine Cj aw (s:=dec c) rfl ?_ aa ?_ aa ?_
   .show I.dz kb 0 (af (dec c)*1)=_;rw[fO a1,dQ,eD,tv,fB,ay (by grind [bw,j6]),Am (by rw[j6];exact aJ _),dr (by rw[j6];exact aJ _)]
   .grind
   intro v' J x k1 r;simp(disch:=omega)only[go_sem,OQ,uW,aK];have c1:s≠kb/\s≠a/\s≠d:=by
    rcases g.key with h|⟨_,h⟩
    .omega
    .omega
   have L:∀y,y<p.ag->y≠b->y≠s->J.get y=p.get y:=λy q D h3=>(r.keep y aa (.inr h3)).trans (g.keep y q (.inr D))
   have a5:x=key\/H.ag<x:=by
    rcases(g.trans r).key with h|⟨h,h'⟩
    .rw[h];exact a4
    .exact .inr aa
   have al:jF key x t J:=by
    have M:=g.trans r;refine⟨?_,λy q a'=>?_,by have:=r.ag;omega⟩
    .rcases M.key with h|⟨h,h'⟩
     .rw[h];exact E.key
     grind
    .by_cases N:y=kb
     .omega
     .have a8:b=0\/y≠b:=by grind
      rw[M.keep y aa a8,w y aa N];exact E.keep y q a'
   refine⟨i,aa,x,dec c++A,aa,?_,al,a5,by have:=r.ag;omega,?_,?_,?_,?_,?_,?_,?_,by grind,?_⟩
   .simp only[go_sem]
    grind
   iterate 3 simp only[go_sem,g2,hJ,qh]
   .simp only[go_sem];rw[bP aa]
   .simp only[go_sem]
   .have P:p.get a=o.get a:=w a aa aa;have Q:p.get d=o.get d:=w d aa aa;exact ap.keep ((L a aa aa aa).trans P) ((L d aa aa aa).trans Q)
   .grind
   .refine a3.keep λy q=>?_
    have a9:s=0\/y≠s:=by rcases g.key with h|⟨_,h⟩<;>omega
    rw[r.keep y aa a9,g.keep y aa aa,w y aa aa]
theorem awU:[V.int .u8 0,.int .u8 0,.int .u8 0,.int .u8 0,.int .u8 0,.int .u8 0,.int .u8 0,.int .u8 0,.int .u8 0,.int .u8 0,.int .u8 0,.int .u8 0,.int .u8 0,.int .u8 0,.int .u8 0,.int .u8 0,.int .u8 0,.int .u8 0,.int .u8 0,.int .u8 0]=cV (aZ 20 0):=rfl
def Lj(b:Nat)(q:b≠0)(W:af (az b)<40){v:V}{key:Nat}(H:ah)(hT:fA H v C key a n)(X:af C+af (dec b)<=a)(J:GT H)(w:5<=H.ag)(R:key=0\/5<=key):dm 354 [v,bx (az b),aj 0] H λv1 e=>∃f,fA e v1 (C++dec b) f a n/\jF key f H e:=by
 have T:=(j7 b).2 q;have S:=hT.RR aa;refine pD Go.Proofs.YtddhncjmaahodaaGreatDoor.hT b_ fI RI.1 RI.2 rfl ?_;simp(disch:=omega)only[go_sem,d354,af3];refine(AJ (az b) ⟨T,aa⟩ H).mono ?_;rintro _ e ⟨rfl,B,am,N⟩;simp(disch:=omega)only[go_sem,af2,af1];refine Xq b H.ag (H.ag+1) (H.ag+2) (az b) q W _ e _ ?_ ?_ B (dr (aJ _)) (g5 b) aa ⟨aa,aa⟩ ⟨aa,aa⟩ aa ?_
 iterate 2 simp only[go_sem]
 intro l c k bQ m h M O P hJ L I K Q Y;have s:rd 0 l=v:=(h 0 ai).trans eJ;have t:rd 2 l=aj 0:=(h 2 ai).trans eJ;clear h;obtain⟨g,j,D,ae,al⟩:=bn.Kq L aa;have U:af (aQ ((kZ (k+1)).map (oN b)))=k+1:=by rw[fo,gD,rT]
 rw[U]at j;have G:=I g _ _ j;rw[j]at hJ;have z:af ((kZ (k+1)).map (oN b))=k+1:=by rw[gD,rT]
 have x:∀i,i<=k->((kZ (k+1)).map (oN b)).getD i 0=oN b i:=λi hi=>by rw[bT,hY,p4 aa];rfl
 generalize(kZ (k+1)).map (oN b)=r at*
 have o:∀y,y<H.ag->c.get y=H.get y:=λy d=>(Q y d).trans (N y d)
 have p:∀y,y<H.ag->(c.push (an (cV (aZ 20 0)) 0)).get y=H.get y:=λy d=>by rw[ah.bl,ao aa];exact o y d
 have E:fA (c.push (an (cV (aZ 20 0)) 0)) v C key a n:=(hT.low o Y).push _;have Z:aE .i64 (((k+1:Nat):Int)-1)=(k:Int):=by rw[aK _ aa];omega
 rw[gb];simp(disch:=omega)only[go_sem,af0,afZ,afY,hJ,Z];rw[awU];refine avq r b k g m c.ag z x C (key:=key) (m:=a) (kk:=n) _ H (c.push (an (cV (aZ 20 0)) 0)) p ⟨w,by show H.ag<=c.ag+1;omega⟩ _ M O P X ?_ (J.keep λy d=>p y aa) (by show 5<=c.ag+1;omega) R (aZ 20 0) (ux ..) ?_ ?_ ?_ ?_ ?_ (D.keep (by rw[ah.bl,ao aa]) (by rw[ah.bl,ao aa])) (by rw[ah.bl,ay rfl]) ⟨S,G,K,aa⟩ ⟨by show g<c.ag+1;omega,by show m<c.ag+1;omega,by show c.ag<c.ag+1;omega⟩ ⟨aa,aa,aa⟩ ?_
 .simp only[go_sem,s];exact E
 iterate 5 simp only[go_sem,t,hJ]
 intro ac H4 f F u A;rw[gb];simp only[go_sem,afX,afV,u];exact⟨f,F,A⟩
def VP(b:Nat)(o:b≠0)(s:af (az b)<=30){v:V}(p:di l=some (.val (aj (a:Nat))))(q:a<1000){key:Nat}(H:ah)(hT:fA H v C key d n)(m:af C+af (dec b)<=d)(j:GT H)(i:5<=H.ag)(k:key=0\/5<=key):dm 297 [v,bx (az b),aj 0,l] H λh e=>∃c,fA e h (C++dec b) c d n/\jF key c H e:=by
 refine pD Go.Proofs.YtddhncjmaahodaaGreatDoor.hT b_ fI RG.1 RG.2 rfl ?_;by_cases r:a=0
 .simp(disch:=omega)only[go_sem,d297,Om,Ol,p,aK,dt];refine(Lj b o aa H hT m j i k).mono ?_;rintro h e ⟨c,f,g⟩;simp only[go_sem];exact⟨c,f,g⟩
 .simp(disch:=omega)only[go_sem,d297,Om,Ol,p,aK,df];refine(Lj b o aa H hT m j i k).mono ?_;rintro h e ⟨c,f,g⟩;simp only[go_sem];exact⟨c,f,g⟩
def fA.str{v:V}{key:Nat}(h:fA b v C key a n):vt [v] b=some (.str C):=by
 cases h with
 |n8 h d=>exact h.str
 |bM c hl e f d=>exact Kr (pre:=[]) (by rw[fS];exact c) rfl rfl
def Lm(b:Nat)(D:af (az b)<=30){v:V}{key:Nat}(H:ah)(hT:fA H v C key a n)(j:af C+af (dec b)<=a)(q:GT H)(z:5<=H.ag)(B:key=0\/5<=key):dm 232 [v,bx (az b)] H λl c=>∃d,fA c l (C++dec b) d a n/\jF key d H c:=by
 refine pD Go.Proofs.YtddhncjmaahodaaGreatDoor.hT b_ fI RC.1 RC.2 rfl ?_;by_cases h:b=0
 .subst h;have M:((af (az 0):Nat):Int)=0:=by rw[k9];rfl
  have E:af C+1<=a:=j;simp(disch:=omega)only[go_sem,d232,GZ,dt];refine z9 hT 48 E aa rfl ?_;intro N J d e f;simp only[go_sem];exact⟨d,e,f⟩
 have L:=(j7 b).2 h;by_cases p:af (az b)=1
 .have s:=pG b;rw[p,Nat.pow_one]at s;have F:(az b).getD 0 0=b:=by obtain⟨r,m,o⟩:=ox b h;rw[p]at m o;simp only[nQ,r0,eD]at m o;omega
  have A:dO none 1 [bx (az b),aj 0]=some (.val (.dY (aQ (az b)) 0)):=ir ⟨ai,aa⟩;simp(disch:=omega)only[go_sem,d232,GZ,N3,df,dt,A,eG,F];refine(Ll b s H hT j q z).mono ?_;rintro l c ⟨d,e,f⟩;simp only[go_sem];exact⟨d,e,f⟩
 .simp(disch:=omega)only[go_sem,d232,GZ,N3,acX,acW,df];refine b8 (λk g c=>k=0/\rd 0 g=v/\rd 1 g=bx (az b)/\rd 5 g=.slice (H.ag+1) 0 1 (.known 1)/\(∀y,y<H.ag->c.get y=H.get y)/\H.ag<=c.ag) 0 ⟨rfl,?_,?_,?_,?_,?_⟩ ?_
  iterate 3 simp only[go_sem]
  .intro y I;simp(disch:=omega)only[go_sem,ao]
  .simp only[go_sem];omega
  rintro k g c ⟨rfl,u,w,x,i,t⟩;rw[acU];simp(disch:=omega)only[go_sem,acV,u,w,x,df];have G:di (V.slice (H.ag+1) 0 1 (.known 1))=some (.val (aj (1:Nat))):=rfl;refine(VP b h D G ai c (hT.low i t) j (q.keep λy I=>i y aa) aa B).mono ?_;rintro l K ⟨d,e,f⟩;simp only[go_sem];exact⟨d,e,f.after i t⟩
def KE(z:Int)(s:af (az z.natAbs)<=30){v:V}{key:Nat}(H:ah)(hT:fA H v C key a n)(g:af C+af (zt z)<=a)(q:GT H)(p:5<=H.ag)(r:key=0\/5<=key):dm 169 [ck z,v] H λm d=>∃c,fA d m (C++zt z) c a n/\jF key c H d:=by
 refine pD Go.Proofs.YtddhncjmaahodaaGreatDoor.hT b_ fI Rx.1 Rx.2 rfl ?_;have f:∀y,y<H.ag->(H.push (an [.bool (decide (z<0)),bx (az z.natAbs)] 0)).get y=H.get y:=λy D=>by rw[ah.bl,ao aa]
 have e:=hT.push (an [.bool (decide (z<0)),bx (az z.natAbs)] 0);have j:GT (H.push (an [.bool (decide (z<0)),bx (az z.natAbs)] 0)):=q.push p _;by_cases b:z<0
 .rw[b3 b]at f e j;rw[KM b]at g⊢;simp only[dZ]at g;simp(disch:=omega)only[go_sem,d169,Ny,ck,dK,b3 b];refine z9 (H:=H.push (an [cY,bx (az z.natAbs)] 0)) e 45 aa (by show H.ag+1≠0;omega) rfl ?_;intro E o c x t;have bX:=t.after (H:=H) f (s9 _);have u:o.get H.ag=an [cY,bx (az z.natAbs)] 0:=by have A:=hT.RR aa;rw[t.keep H.ag (nO _) aa,ah.bl,ay rfl]
  have w:c=0\/5<=c:=by rcases bX.key with h|⟨_,h⟩<;>omega
  have B:=bX.ag;simp(disch:=omega)only[go_sem,Nx,u];refine(Lm z.natAbs s o x e7 (wk bX q p r) aa w).mono ?_;rintro m d ⟨l,i,k⟩;simp only[go_sem];refine⟨l,?_,bX.trans k⟩;rw[gX]at i;exact i
 .rw[bP b]at f e j;rw[Cv b]at g⊢;simp(disch:=omega)only[go_sem,d169,Ny,Nx,ck,dK,bP b];refine(Lm z.natAbs s _ e g j (by show 5<=H.ag+1;omega) r).mono ?_;rintro m d ⟨l,i,k⟩;simp only[go_sem];exact⟨l,i,k.after f (s9 _)⟩
def PA(h:af (az a)<=30):af (dec a)<=601:=by
 have b:=pG a;have c:a<10^600:=@Go.aD.Jx a 18446744073709551616 (af (az a)) 10 20 600 b ai aa ai;unfold dec;split
 .decide
 .exact Nat.le_succ_of_le (qZ c)
def awP(z:Int)(b:af (az z.natAbs)<=30):cU 168 [ck z] (.str (zt z)):=by
 refine dg (.f1 (gd _)) (pD Go.Proofs.YtddhncjmaahodaaGreatDoor.hT b_ fI Rw.1 Rw.2 rfl ?_);have hl:af (zt z)<=1000:=by have:=PA b;unfold zt;split<;>simp<;>omega
 simp only[go_sem,d168,abh,ck,dK];have a:GT (dV.push (an [.bool (decide (z<0)),bx (az z.natAbs)] 0)):=e5.push ai _;refine(KE z b _ (fA.n8 (l:=[]) (m:=1000) .nil ai) (by simpa using hl) a (by show 5<=6;decide) (.inl rfl)).mono ?_;rintro g e ⟨f,c,d⟩;rw[fS]at c;simp only[go_sem,c.str];exact bO (wk d a (by show 5<=6;decide) (.inl rfl)) rfl (.str _)
def avI{ds:av}{w:Nat}(c:W.aG ds)(hl:af ds=af (az w))(h:w<=W.val ds):ds=az (W.val ds):=by have d:=nu h;have b:=nI c;have a:=Fk ds;rw[b,dr aa]at a;exact a.symm
def aqy(a:av)(f h n b g:Nat)(hx:W.aG a)(T:f<18446744073709551616)(U:h<18446744073709551616)(hn:af a=n)(ar:n<1000000)(F:Fr)(H:ah)(R:b5)(Q:dB H b g (aQ a))(I:rd 3 F=.slice b 0 n (.grown 1))(M:rd 6 F=aC f)(N:rd 9 F=aC h)(J:rd 42 F=.slice b 0 n (.grown 1))(K:rd 43 F=aj n)(L:rd 44 F=aj 0)
 (S:∀l u ds k,(∀t,t<9->rd t l=rd t F)->rd 9 l=aC (k:Nat)->k<18446744073709551616->af ds=n->W.aG ds->W.val ds+18446744073709551616^n*k=h+W.val a*f->nU H u b g (aQ ds)->R (.exit 4) l u):bK (.loop (pc 307 7)) R F H:=by
 refine b8 (λk d e=>∃(ds:av) (c:Nat),k=n-af ds/\af ds<=n/\(∀t,t<9->rd t d=rd t F)/\rd 9 d=aC c/\rd 42 d=.slice b 0 n (.grown 1)/\rd 43 d=aj n/\rd 44 d=aj (af ds)/\c<18446744073709551616/\W.aG ds/\
  W.val ds+18446744073709551616^(af ds)*c=h+W.val (a.take (af ds))*f/\nU H e b g (aQ (ds++a.drop (af ds)))) n ⟨[],h,rfl,cj _,λ_ _=>rfl,N,J,K,L,U,W.aG.nil,by simp[W.val],nU.refl Q⟩ ?_
 rintro k d e ⟨ds,c,rfl,hd,j,w,v,m,o,y,E,s,i⟩;have O:=(j 3 ai).trans I;have P:=(j 6 ai).trans M;rw[Oy];by_cases hi:af ds<n
 .have D:=hx.getD (af ds);have z:=tC (l:=a) (i:=af ds) aa;have C:=mO (l:=a) (i:=af ds) aa;obtain⟨x,ex⟩:∃x,a.getD (af ds) 0=x:=⟨_,rfl⟩;rw[ex]at z D C;rw[z]at i;have A:=i.ob;have X:=A4 ds (a.drop (af ds+1)) x;have B:af ds<af (ds++x::a.drop (af ds+1)):=aI;have Y:jd false 1 [.ptr b (af ds)] e=some (aC x):=by rw[u7 A,eG B,X]
  obtain⟨p,G,p1,p2,p3,al⟩:=Bp x f c D T y;have Z:qB 1 [.ptr b (af ds),aC p] e=some (V.undef,ah.wr e b g (aQ (ds++p::a.drop (af ds+1)))):=by rw[z0 A (by rw[fo];exact B),lP,nH rfl]
  simp(disch:=omega)only[go_sem,Hp,afg,O,P,w,v,m,o,dt,cH,cg,Y];refine use al ?_;simp(disch:=omega)only[go_sem,aff,o,cH,cg,Z,aK];refine⟨n-(af ds+1),aa,ds++[p],G,aI,by simp;omega,λt r=>?_,?_,?_,?_,?_,p2,E.app (.mk p1 W.aG.nil),?_,?_⟩
  .simp(disch:=omega)only[cX];exact j t r
  iterate 3 simp only[go_sem,v,m]
  .simp only[go_sem,bw,iA];rfl
  .rw[W.gi];simp only[bw,iA,dX,W.val,gj,dG];rw[C];have:=S4 (z:=0) (x:=x) s (by rw[eW];exact p3.symm);rw[gj,dG]at this;exact this
  .have:=i.wr (aQ ((ds++[p])++a.drop (af ds+1)));simpa using this
 .have q:af ds=n:=aa;simp(disch:=omega)only[go_sem,Hp,m,o,df];rw[q,dr aa]at s;rw[q,mR aa,hU]at i;refine S _ _ ds c (λt r=>?_) ?_ y q E s i
  .simp(disch:=omega)only[cX];exact j t r
  .simp only[go_sem,w]
theorem HS:∀(l:aW) (a:Nat),l.foldl (λa c=>10*a+(c.toNat-48)) a=a*10^(af l)+dv l
 |[],a=>by simp[dv]
 |c::l,a=>by
  have b:dv (c::l)=l.foldl (λa c=>10*a+(c.toNat-48)) (10*0+(c.toNat-48)):=rfl;rw[b,List.foldl_cons,HS l,HS l,dZ,dX,fT,gj,eW]
  grind
def ajf(a b:aW):dv (a++b)=dv a*10^(af b)+dv b:=by
 have h:dv (a++b)=b.foldl (λa c=>10*a+(c.toNat-48)) (dv a):=by show(a++b).foldl _ 0=_;rw[List.foldl_append];rfl
 rw[h,HS]
def ajj(s:aW)(a:∀c∈s,gx c):af (az (dv s))<=af s:=xL (fy (uQ s a) (Nat.pow_le_pow_left ai _))
theorem aqx(a:av)(h e g:Nat)(v:V)(O:W.aG a)(K:h<18446744073709551616)(x:e<18446744073709551616)(N:af a<1000000)(F:Fr)(H:ah)(R:b5)(n:bn H 1 v (aQ a) g)(y:rd 3 F=v)(B:rd 6 F=aC h)(s:rd 9 F=aC e)(z:rd 42 F=v)(q:rd 43 F=aj (af a))(r:rd 44 F=aj 0)
 (w:∀c d ds k,(∀t,t<9->rd t c=rd t F)->rd 9 c=aC (k:Nat)->k<18446744073709551616->af ds=af a->W.aG ds->W.val ds+18446744073709551616^(af a)*k=e+W.val a*h->bn d 1 v (aQ ds) g->d.ag=H.ag->R (.exit 4) c d):bK (.loop (pc 307 7)) R F H:=by
 by_cases m:g=0
 .have j:v=.aA/\a=[]:=by
   generalize X:aQ a=Y at n
   cases n with
   |nil=>grind [fo]
   |cells _ _ _ S _ _ _=>exact absurd m S
  obtain⟨rfl,rfl⟩:=j;refine b8 (λk l p=>k=0/\l=F/\p=H) 0 ⟨rfl,rfl,rfl⟩ ?_;rintro k l p ⟨rfl,rfl,rfl⟩;have A:rd 43 l=aj 0:=q;have T:¬(0:Int)<0:=ai;rw[Oy];simp(disch:=assumption)only[go_sem,Hp,A,r,df];refine w _ _ [] e (λt U=>?_) ?_ x rfl W.aG.nil (by simp[W.val]) (by rw[m];exact .nil) rfl
  .simp(disch:=omega)only[cX]
  .simp only[go_sem,s]
 .obtain⟨b,j,J,L,M⟩:=bn.Kq n m;rw[fo]at j;subst j;refine aqy a h e (af a) b g O K x rfl N F H R J y B s z q r ?_;intro c d ds k C D E u G I i;have o:=i.ob;obtain⟨f,P,Q⟩:=o.bV;refine w c d ds k C D E u G I ?_ i.ag;rw[<-u];exact .cells o.row P Q o.ne (by rw[fo,eD]) (by rw[i.ag];exact M) (by rw[i.ag];exact L)
theorem ar2(s:aW)(G:∀c∈s,gx c)(hl:af s<=10000):bm 307 [.str s] (bx (az (dv s))):=by
 refine gR (.f1 .ss) (bg aoT ?_);simp only[go_sem,d307,afd,afc];refine b8 (λk n i=>∃(b a:aW) (v:V) (g:Nat),s=b++a/\k=af a/\rd 0 n=.str a/\rd 3 n=v/\bn i 1 v (aQ (az (dv b))) g/\5<=i.ag) (af s) ⟨[],s,.aA,0,rfl,rfl,?_,?_,by rw[show dv []=0 from rfl,k9];exact .nil,aJ 5⟩ ?_
 iterate 2 simp only[go_sem]
 rintro k n i ⟨b,a,v,g,f,rfl,p,y,E,ba⟩;rw[afa];have a9:af s=af b+af a:=by rw[f,bw]
 by_cases z:a=[]
 .subst z;rw[hU]at f;have a5:¬(0:Int)<(af ([]:aW):Nat):=ai;simp(disch:=assumption)only[go_sem,afb,p,y,df]
  grind [akI,eF]
 .have bb:=List.length_pos_iff.2 z;obtain⟨m,em⟩:∃m,m=(af a-1)%19+1:=⟨_,rfl⟩;have a':m<=19:=aa;have U:m<=af a:=by have:=Nat.mod_le (af a-1) 19;omega
  have ab:(((af a:Nat):Int)-1).tmod 19=((m-1:Nat):Int):=by rw[(aa:((af a:Nat):Int)-1=((af a-1:Nat):Int)),show(19:Int)=((19:Nat):Int)from rfl,z3];congr 1;omega
  have a6:(19:Int)≠0:=ai;have ad:((m-1:Nat):Int)+1=(m:Int):=aa;obtain⟨t,x⟩:∃t,t=a.take m:=⟨_,rfl⟩;obtain⟨d,w⟩:∃t,t=a.drop m:=⟨_,rfl⟩;have bc:af t=m:=by rw[x];exact jq U
  have r:a=t++d:=by rw[x,w,p6]
  have a7:af d=af a-m:=by rw[w,lB]
  have H:∀c∈t,gx c:=λc q=>G c (by rw[f,r];simp[q])
  have ac:∀c∈b,gx c:=λc q=>G c (by rw[f];simp[q])
  have t1:slice3 ov false true false [.str a,aj m]=some (.val (.str t)):=by grind [Kf,cg]
  have t2:slice3 ov true false false [.str a,aj m]=some (.val (.str d)):=by grind [B8,cg]
  have t3:Cg [.str t]=some (.new (cV t) (.bytes (af t))):=by show some (bh.new (lmap _ t) (.bytes (c_ t)))=_;rw[aqg,iw]
  simp(disch:=first|assumption|omega)only[ae',ae_,ae9,go_sem,↓reduceIte,mz,p,dt,aK,nY,ab,ad,t1,t3]
  refine Xo t H aa i.ag .oY _ _ _ ?_ ?_ ?_ ?_ ?_ ?_ ?_
  iterate 5 simp only[go_sem]
  .rw[ah.bl,ay rfl]
  intro o j ap ar;have k0:rd 0 o=.str a:=by rw[j 0 ai];simp only[go_sem,p]
  have bX:rd 3 o=v:=by rw[j 3 ai];simp only[go_sem,y]
  have am:rd 4 o=aj m:=by rw[j 4 ai];simp only[go_sem]
  clear j;have Q:=E.push (an (cV t) 0);have a8:=ajj b ac;have Z:10^(af t)<=10^19:=iI ai aa;have ae:=uQ t H;have B:10^(af t)<18446744073709551616:=fu Z ai;have P:dv t<18446744073709551616:=rZ ae B;have O:0<10^(af t):=gE ai;have T:di v=some (.val (aj ((af (az (dv b)):Nat):Int))):=by have:=E.len ai;rw[pA,fo]at this;exact this
  rw[gb];simp only[go_sem,ae8,ae7,ae6,k0,bX,am,ap,t2,T];refine aqx (az (dv b)) (10^(af t)) (dv t) g v (g5 _) B P aa _ _ _ Q ?_ ?_ ?_ ?_ ?_ ?_ ?_
  iterate 6 simp only[go_sem,bX,ar]
  intro u M ds k A L S C I h F X;have J:rd 0 u=.str d:=(A 0 ai).trans eJ;have K:rd 3 u=v:=(A 3 ai).trans (by simp only[go_sem,bX]);rw[g7]at h;have D:dv (b++t)=dv t+dv b*10^(af t):=by rw[ajf,i_]
  rw[<-D]at h;have Y:5<=M.ag:=by rw[X];show 5<=i.ag+1;omega
  rw[gb];by_cases R:k=0
  .subst R;rw[gj,dG]at h;have l:=avI (w:=dv b) I C (by rw[h,D];have:dv b*1<=dv b*10^(af t):=eN _ O;omega)
   rw[h]at l;simp(disch:=omega)only[go_sem,OA,Oz,L,kh,decide_true];refine⟨af d,aa,b++t,d,v,g,by rw[f,r,gX],rfl,?_,?_,by rw[<-l];exact F,Y⟩
   iterate 2 simp only[go_sem,J,K]
  .have l:az (dv (b++t))=ds++[k]:=by
    rw[<-h,<-C];have e:W.val ds+18446744073709551616^(af ds)*k=W.val (ds++[k]):=by rw[W.gi];simp[W.val]
    rw[e];refine ajl (I.app (.mk S W.aG.nil)) ?_;unfold W.aY;rw[List.getLast?_append];simp;omega
   simp(disch:=omega)only[go_sem,OA,Oz,K,L,df];refine P6 F k aa λH4 N r1 r2 be bi=>?_
   simp(disch:=omega)only[go_sem];refine⟨af d,aa,b++t,d,_,N,by rw[f,r,gX],rfl,?_,rfl,?_,aa⟩
   .simp only[go_sem,J]
   .simp only[go_sem];rw[l];exact r1
def ar3(s:aW)(f:∀c∈s,gx c)(hl:af s<=570):bm 247 [.str s,.aA] (bx (az (dv s))):=by
 refine dM (.f2 .ss .aA) (eF _) (bg aox ?_);have g:aE .i64 ((0:Int)-1)= -1:=by rw[aK _ ai];rfl
 simp only[go_sem,d247,adu,adt,g];refine b8 (λk a b=>k=0/\rd 0 a=.str s/\rd 5 a=aj (-1)) 0 ⟨rfl,?_,?_⟩ ?_
 iterate 2 simp only[go_sem]
 rintro k a b ⟨rfl,d,e⟩;rw[adr];have h:(-1:Int)<0:=ai;simp(disch:=assumption)only[go_sem,ads,d,e,dt];refine use (ar2 s f aa) ?_;simp only[go_sem]
def ar4(s:aW)(a:∀c∈s,gx c)(hl:af s<=570):bm 187 [.str s] (bx (az (dv s))):=by refine dM (.f1 .ss) (eF _) (bg an' ?_);have b:¬(570:Int)<((af s:Nat):Int):=aa;simp(disch:=assumption)only[go_sem,d187,ab2,ab1,ab0,df];refine use (ar3 s a hl) ?_;simp only[go_sem]
def Ew(s:aW)(a:∀c∈s,gx c)(hl:af s<=570):bm 122 [.str s] (ck (dv s)):=by refine dM (.f1 .ss) (gd _) (bg anB ?_);simp only[go_sem,d122,Zi];refine use (ar4 s a hl) ?_;simp only[go_sem];rw[iN]
def JH(q:Rat):bm 171 [cZ q] (aj q.num.sign):=by refine dM (.f1 (ig _)) (.int _ _) (bg anX ?_);have h:=UX q.num;unfold ck dK at h;simp only[go_sem,d171,abl,cZ,cc];refine use h ?_;simp only[go_sem]
def BI(q:Rat):bm 174 [cZ q] (ck (q.den:Int)):=by
 refine gR (.f1 (ig _)) (bg an0 ?_);have a:=zp ((dd q:Nat):Int);rw[iN]at a;have d:=awB 1 ai;by_cases b:q.den=1
 .rw[b3 (by rw[nZ b];rfl)]at a;simp only[go_sem,d174,NA,cZ,cc];refine use a ?_;simp only[go_sem];refine use d ?_;simp only[go_sem,ck,dK];exact jy (by rw[b];rfl) (gd _)
 .have c:dd q=q.den:=ao b;rw[bP (by rw[c];have:=q.den_nz;omega)]at a;simp only[go_sem,d174,NA,abo,cZ,cc];refine use a ?_;simp only[go_sem];exact jy (by rw[c,iN]) (gd _)
theorem atZ(n:Int)(d:a≠0):e6 (mkRat n a)=fW n 0:=by
 have i:0<c9 n.natAbs a:=Nat.gcd_pos_of_pos_right _ (lC d);obtain⟨t,b⟩:∃t,n=(c9 n.natAbs a:Int)*t:=by have e:((c9 n.natAbs a:Nat):Int)∣n:=Int.ofNat_dvd_left.2 (Nat.gcd_dvd_left _ _);exact e
 have f:(mkRat n a).num=t:=by
  rw[zD _ d];generalize c9 n.natAbs a=g at*
  rw[b];exact Int.mul_tdiv_cancel_left _ aa
 unfold e6 fW;rw[f];generalize c9 n.natAbs a=g at*
 have c:(0:Int)<(g:Int):=aa;rcases Int.lt_trichotomy t 0 with h|h|h
 .have:n<0:=by rw[b];exact Int.mul_neg_of_pos_of_neg c h
  rw[ay h,ay this]
 .grind
 .have:0<n:=by rw[b];exact Int.mul_pos c h
  omega
def Xz(a b:Int):fW (a-b) 0=fW a b:=by unfold fW;omega
def TG(p q:Rat):e6 (p-q)=fW (p.num*q.den) (q.num*p.den):=by rw[Rat.sub_eq_add_neg,yN,Rat.neg_den,Rat.neg_num,atZ _ (xj p.den_nz q.den_nz),Int.neg_mul,<-Int.sub_eq_add_neg];exact Xz _ _
theorem MR{a:Int}(g:0<d)(i:0<m)(h:a.sign≠q.sign):fW (a*d) (q*m)=fW a q:=by
 have b:(0:Int)<d:=aa;have c:(0:Int)<m:=aa;rcases Int.lt_trichotomy a 0 with ha|ha|ha<;>rcases Int.lt_trichotomy q 0 with hb|hb|hb
 .grind
 .subst hb;have:=Int.mul_neg_of_neg_of_pos ha b;rw[Int.zero_mul,sg this,sg ha]
 .have e:=Int.mul_neg_of_neg_of_pos ha b;have f:=Int.mul_pos hb c
  grind [sg]
 .subst ha;have:=Int.mul_neg_of_neg_of_pos hb c;rw[Int.zero_mul,r_ this,r_ hb]
 .subst ha hb;exact absurd rfl h
 .subst ha;have:=Int.mul_pos hb c;rw[Int.zero_mul,sg this,sg hb]
 .have e:=Int.mul_pos ha b;have f:=Int.mul_neg_of_neg_of_pos hb c
  grind [r_]
 .subst hb;have:=Int.mul_pos ha b;rw[Int.zero_mul,r_ this,r_ ha]
 grind
def xG(q:Rat):bm 165 [.agg [aR,bx (az (dd q))]] (.bool (decide (q.den=1))):=by
 have a:=zp ((dd q:Nat):Int);rw[iN]at a;have:decide (((dd q:Nat):Int)=0)=decide (q.den=1):=by
  refine decide_eq_decide.2 ?_;have:=q.den_nz;unfold dd;split
  .omega
  .omega
 rw[<-this];exact a
end Go.Proofs.YtddhncjmaahodaaGreatDoor
namespace Go.aD
open Go.Proofs.YtddhncjmaahodaaGreatDoor
variable{a:Nat}{h:Rat}
def aM.kg(b:aM a h):eP a h.num:=b.num
def aM.m6(b:aM a h):eP a (h.den:Int):=eP.nat b.den
end Go.aD
namespace Go.Proofs.YtddhncjmaahodaaGreatDoor
open Go.ax Go.aD
variable{d:Nat}
def asK(p q:Rat){a:Nat}(g:aM a p)(i:aM d q)(w:a+d<=2400):bm 110 [cZ p,cZ q] (aj (e6 (p-q))):=by
 have m:=UR p.num q.num (by have:=g.kg.len (k:=100) aa;omega) (by have:=i.kg.len (k:=100) aa;omega);have o:=sX p.num q.den (by have:=g.kg.len (k:=39) aa;omega) (by have:=i.m6.len (k:=39) aa;omega);have r:=sX q.num p.den (by have:=i.kg.len (k:=39) aa;omega) (by have:=g.m6.len (k:=39) aa;omega);have n:=UR (p.num*q.den) (q.num*p.den) (by have:=(g.kg.mul i.m6 (aJ _)).len (k:=100) aa;omega) (by have:=(i.kg.mul g.m6 (aJ _)).len (k:=100) aa;omega);refine dM (.f2 (ig _) (ig _)) (.int _ _) (bg anr ?_);rw[TG];have b:=xG p;have f:=xG q;have j:=JH p;have k:=JH q;have dp:=BI p;have l:=BI q;unfold ck dK at m o r n dp l;unfold cZ cc at j k dp l;have t:=lC p.den_nz;have u:=lC q.den_nz;have short:fW p.num q.num=fW (p.num*q.den) (q.num*p.den)->True:=λ_=>trivial
 by_cases e:p.den=1/\q.den=1
 .rw[b3 e.1]at b;rw[b3 e.2]at f;simp only[go_sem,d110,AM,cZ,cc];refine use b ?_;simp only[go_sem];refine use f ?_;simp only[go_sem];refine use m ?_;simp only[go_sem];rw[e.1,e.2];simp
 .by_cases v:p.num.sign=q.num.sign
  .by_cases c:p.den=1
   .have s:¬q.den=1:=λh=>e ⟨c,h⟩
    rw[b3 c]at b;rw[bP s]at f;simp only[go_sem,d110,AM,cZ,cc];refine use b ?_;simp only[go_sem];refine use f ?_;simp only[go_sem];refine use j ?_;simp only[go_sem,true_and];refine use k ?_;simp(disch:=assumption)only[go_sem,M_,dt];refine use l ?_;simp only[go_sem,true_and];refine use o ?_;simp only[go_sem,true_and];refine use dp ?_;simp only[go_sem,true_and];refine use r ?_;simp only[go_sem];refine use n ?_;simp only[go_sem]
   .rw[bP c]at b;simp only[go_sem,d110,AM,cZ,cc];refine use b ?_;simp only[go_sem];refine use j ?_;simp only[go_sem,true_and];refine use k ?_;simp(disch:=assumption)only[go_sem,M_,dt];refine use l ?_;simp only[go_sem,true_and];refine use o ?_;simp only[go_sem,true_and];refine use dp ?_;simp only[go_sem,true_and];refine use r ?_;simp only[go_sem];refine use n ?_;simp only[go_sem]
  .by_cases c:p.den=1
   .have s:¬q.den=1:=λh=>e ⟨c,h⟩
    rw[b3 c]at b;rw[bP s]at f;simp only[go_sem,d110,AM,cZ,cc];refine use b ?_;simp only[go_sem];refine use f ?_;simp only[go_sem];refine use j ?_;simp only[go_sem,true_and];refine use k ?_;simp(disch:=assumption)only[go_sem,df];refine use m ?_;simp only[go_sem];rw[MR u t v]
   .rw[bP c]at b;simp only[go_sem,d110,AM,cZ,cc];refine use b ?_;simp only[go_sem];refine use j ?_;simp only[go_sem,true_and];refine use k ?_;simp(disch:=assumption)only[go_sem,df];refine use m ?_;simp only[go_sem];rw[MR u t v]
end Go.Proofs.YtddhncjmaahodaaGreatDoor
namespace Go.aD
def JI(p q:Rat)(h:p.den.gcd q.den=1):(p+q).num=p.num*q.den+q.num*p.den/\(p+q).den=p.den*q.den:=by show(Rat.add p q).num=_/\(Rat.add p q).den=_;unfold Rat.add;simp only[h,dite_true,and_self]
def asU(p q:Rat)(h:p.den.gcd q.den≠1)(n:Int)(c:n=p.num*((q.den/p.den.gcd q.den:Nat):Int)+q.num*((p.den/p.den.gcd q.den:Nat):Int))(g:Nat)(b:g=n.natAbs.gcd (p.den.gcd q.den)):(p+q).num=n.tdiv g/\(p+q).den=p.den/p.den.gcd q.den*q.den/g:=by
 subst c b;show(Rat.add p q).num=_/\(Rat.add p q).den=_;unfold Rat.add;simp only[h,dite_false];unfold Rat.maybeNormalize;split
 .rename_i a;simp only[a];simp
 .simp only[Int.divExact_eq_tdiv,Nat.divExact_eq_div,and_self]
def atu(p q:Rat):(p*q).num=p.num.tdiv (p.num.natAbs.gcd q.den:Nat)*q.num.tdiv (q.num.natAbs.gcd p.den:Nat)/\(p*q).den=p.den/(q.num.natAbs.gcd p.den)*(q.den/(p.num.natAbs.gcd q.den)):=by show(Rat.mul p q).num=_/\(Rat.mul p q).den=_;unfold Rat.mul;simp only[Int.divExact_eq_tdiv,Nat.divExact_eq_div,and_self]
variable{h:Rat}
def JJ(a:h.num=0):h=0:=Rat.num_eq_zero.1 a
end Go.aD
namespace Go.Proofs.YtddhncjmaahodaaGreatDoor
open Go.ax Go.aD
variable{d:Nat}
def nleb{a:Nat}(h:b6 a d=true):a<=d:=jI h
def nlrf(a:Nat):a<=a:=aJ a
variable{b:ah}
def dh(h:GT b:=by repeat (first|exact e5|refine GT.set ?_ (nleb rfl) _|refine GT.push ?_ (nleb rfl) _)):GT b:=h
def asO(q:Rat):bm 164 [cZ q] (cZ (-q)):=by
 refine gR (.f1 (ig _)) (bg anS ?_);have h:=UT q.num;unfold ck dK at h;simp only[go_sem,d164,abe,cZ,cc];refine use h ?_;simp only[go_sem,true_and];refine jy ?_ (ig _);have a:dd (-q)=dd q:=by unfold dd;rw[Rat.neg_den]
 rw[Rat.neg_num,a]
variable{h:Rat}
def akJ(a:h.den=1):∃u,bS b (ah.zero b.ag) (.agg [.bool (decide (h.num<0)),bx (az h.num.natAbs),aR,.aA]) u/\bA u/\u=cZ h:=by
 refine⟨_,.agg (.f4 .mm .mm .mm .gK),?_⟩;have e:V.row 0 []=bx (az (dd h)):=by rw[nZ a,k9];rfl
 rw[e];exact⟨ig h,rfl⟩
def Q0(c:GT b)(a:h.den=1):GT b/\∃u,bS b (dV.nW b.ag) (.agg [.bool (decide (h.num<0)),bx (az h.num.natAbs),aR,.aA]) u/\bA u/\u=cZ h:=by
 refine⟨c,_,.agg (.f4 .mm .mm .mm .gK),?_⟩;have e:V.row 0 []=bx (az (dd h)):=by rw[nZ a,k9];rfl
 rw[e];exact⟨ig h,rfl⟩
def DQ(c:GT b)(a:h=0):GT b/\∃u,bS b (dV.nW b.ag) (.agg [aR,.aA,aR,.aA]) u/\bA u/\u=cZ h:=by
 subst a;refine⟨c,_,.agg (.f4 .mm .gK .mm .gK),?_⟩;have e:V.agg [aR,.row 0 [],aR,.row 0 []]=cZ 0:=by unfold cZ cc;rw[show(0:Rat).num=0 from rfl,show dd 0=0 from rfl,Int.natAbs_zero,k9];rfl
 rw[e];exact⟨ig 0,rfl⟩
def EC(q:Rat):bm 176 [ck q.num,ck (q.den:Int)] (cZ q):=by
 refine gR (.f2 (gd _) (gd _)) (bg an2 ?_);have a:=Ae (q.den:Int);have c:decide ((q.den:Int)=1)=decide (q.den=1):=decide_eq_decide.2 aa;rw[c]at a;unfold ck dK at a;by_cases b:q.den=1
 .rw[b3 b]at a;simp only[go_sem,d176,NC,ck,dK];refine use a ?_;simp only[go_sem];exact akJ b
 .rw[bP b]at a;simp only[go_sem,d176,NC,abr,ck,dK];refine use a ?_;simp only[go_sem];refine jy ?_ (ig _);unfold cZ cc;rw[kL b,bP (aa:¬((q.den:Int)<0)),eU]
theorem I2(a b:Nat):mP (a:Int) (b:Int)=((a/b:Nat):Int):=rfl
variable{a:Nat}{q:Int}
def fK{k:Nat}(h:eP a q)(b:a<=64*k)(c:k<d):af (az q.natAbs)<d:=fu (h.len b) c
def eP.tdiv{y:Int}(h:eP a q):eP a (mP q y):=by unfold eP at*;rw[Int.natAbs_tdiv];exact fu (js _ _) h
set_option maxHeartbeats 1000000 in
def JF(p q:Rat){a b:Nat}(h:aM a p)(d:aM b q)(aw:a+b+1<=1900):cU 112 [cZ p,cZ q] (cZ (p+q)):=by
 refine dg (.f2 (ig _) (ig _)) (bg ant ?_);have j:=xG p;have o:=xG q;have ar:=p.den_nz;have ac:=q.den_nz;by_cases l:p.den=1
 .rw[b3 l]at j;have f:=sX p.num q.den (fK h.kg (k:=38) aa ai) (fK d.m6 (k:=38) aa ai);have S:=Fu p.num q.num (fK h.kg (k:=38) aa ai) (fK d.kg (k:=38) aa ai);have w:=Fu (p.num*q.den) q.num (fK (h.kg.mul d.m6 (aJ _)) (k:=38) aa ai) (fK d.kg (k:=38) aa ai);have m:p.den.gcd q.den=1:=by rw[l];exact Nat.gcd_one_left _
  obtain⟨i,e⟩:=JI p q m;rw[l,kn]at e;rw[l,show((1:Nat):Int)=1 from rfl,Int.mul_one]at i;by_cases c:q.den=1
  .rw[b3 c]at o;rw[c,show((1:Nat):Int)=1 from rfl,Int.mul_one]at i;rw[c]at e;unfold ck dK at S;simp only[go_sem,d112,Da,cZ,cc];refine use j ?_;simp only[go_sem];refine use o ?_;simp only[go_sem];refine use S ?_;simp only[go_sem];rw[<-i];exact Q0 dh e
  .rw[bP c]at o;rw[iN,<-kL c]at f;unfold ck dK at f w;rw[kL c]at f;simp only[go_sem,d112,Da,cZ,cc];refine use j ?_;simp only[go_sem];refine use o ?_;simp only[go_sem];refine use j ?_;simp only[go_sem];rw[kL c];refine use f ?_;simp only[go_sem,true_and];refine use w ?_;simp only[go_sem,true_and];refine bO dh ?_ (ig _);rw[i,kL (q:=p+q) (by rw[e];exact c),e]
 .rw[bP l]at j;by_cases c:q.den=1
  .rw[b3 c]at o;have m:p.den.gcd q.den=1:=by rw[c];exact xg _
   obtain⟨i,e⟩:=JI p q m;rw[c,eD]at e;rw[c,show((1:Nat):Int)=1 from rfl,Int.mul_one,Int.add_comm]at i;have f:=sX q.num p.den (fK d.kg (k:=38) aa ai) (fK h.m6 (k:=38) aa ai);have w:=Fu (q.num*p.den) p.num (fK (d.kg.mul h.m6 (aJ _)) (k:=38) aa ai) (fK h.kg (k:=38) aa ai);rw[iN]at f;unfold ck dK at f w;simp only[go_sem,d112,Da,cZ,cc];rw[kL l]at j⊢;refine use j ?_;simp only[go_sem];refine use j ?_;simp only[go_sem];refine use o ?_;simp only[go_sem];refine use f ?_;simp only[go_sem,true_and];refine use w ?_;simp only[go_sem,true_and];refine bO dh ?_ (ig _);rw[i,kL (q:=p+q) (by rw[e];exact l),e]
  .rw[bP c]at o;rw[kL l]at j;rw[kL c]at o;obtain⟨g,bB⟩:∃g,g=p.den.gcd q.den:=⟨_,rfl⟩;have ap:0<g:=by rw[bB];exact Nat.gcd_pos_of_pos_left _ (lC ar)
   have a1:g∣p.den:=by rw[bB];exact Nat.gcd_dvd_left _ _
   have X:g∣q.den:=by rw[bB];exact xe _ _
   have Y:((g:Nat):Int)≠0:=aa;have L:eP b (g:Int):=eP.nat (fu (Nat.le_of_dvd (lC ac) X) d.den);have K:=Ct (p.den:Int) (q.den:Int) (fK h.m6 (k:=38) aa ai) (fK d.m6 (k:=38) aa ai);rw[eU,eU,<-bB]at K;have C:=Af (q.den:Int) (g:Int) Y (fK d.m6 (k:=38) aa ai) (fK L (k:=38) aa ai);have D:=Af (p.den:Int) (g:Int) Y (fK h.m6 (k:=38) aa ai) (fK L (k:=38) aa ai);rw[I2]at C D;obtain⟨gh,A⟩:∃x,x=q.den/g:=⟨_,rfl⟩;obtain⟨s,v⟩:∃x,x=p.den/g:=⟨_,rfl⟩;rw[<-A]at C;rw[<-v]at D;have Z:eP b (gh:Int):=eP.nat (fu (by rw[A];exact js _ _) d.den);have P:eP a (s:Int):=eP.nat (fu (by rw[v];exact js _ _) h.den);have f:=sX p.num gh (fK h.kg (k:=38) aa ai) (fK Z (k:=38) aa ai);have M:=sX q.num s (fK d.kg (k:=38) aa ai) (fK P (k:=38) aa ai);have Q:=h.kg.mul Z (aJ _);have R:=d.kg.mul P (aJ _);have J:=Fu (p.num*gh) (q.num*s) (fK Q (k:=38) aa ai) (fK R (k:=38) aa ai);have H:eP (a+b+1) (p.num*gh+q.num*s):=Q.add R aa aa;obtain⟨n,bD⟩:∃n,n=p.num*gh+q.num*s:=⟨_,rfl⟩;rw[<-bD]at J H;have T:=zp n;have u:=Ae (g:Int);have e1:decide ((g:Int)=1)=decide (g=1):=decide_eq_decide.2 aa;rw[e1]at u;rw[iN,iN,iN]at K;rw[iN,iN,iN]at C D;rw[iN]at f M u;unfold ck dK at f M J T;simp only[go_sem,d112,Da,cZ,cc];rw[kL l,kL c];refine use j ?_;simp only[go_sem];refine use j ?_;simp only[go_sem];refine use o ?_;simp only[go_sem,YM];refine bq K dh ?_;simp only[go_sem,YL];refine use C ?_;simp only[go_sem,true_and];refine use D ?_;simp only[go_sem,YK];refine use f ?_;simp only[go_sem,true_and];refine use M ?_;simp only[go_sem];refine use J ?_;simp only[go_sem,YJ];refine use T ?_;by_cases m:g=1
   .have O:p.den.gcd q.den=1:=by rw[<-bB];exact m
    obtain⟨i,e⟩:=JI p q O;have ab:n=(p+q).num:=by rw[i,bD,A,v,m,pA,pA]
    by_cases t:n=0
    .rw[b3 t];simp only[go_sem];exact DQ dh (JJ (by rw[<-ab];exact t))
    .rw[bP t];rw[b3 m]at u;have N:=sX (p.den:Int) (q.den:Int) (fK h.m6 (k:=38) aa ai) (fK d.m6 (k:=38) aa ai);rw[<-fF,<-e,iN p.den,iN q.den]at N;have r:=EC (p+q);rw[<-ab]at r;unfold cZ cc at r;unfold ck dK at r N;simp only[go_sem,Nd];refine use u ?_;simp only[go_sem];refine use N ?_;simp only[go_sem,true_and];refine use r ?_;simp only[go_sem];exact bO dh rfl (ig _)
   .have O:p.den.gcd q.den≠1:=by rw[<-bB];exact m
    obtain⟨k,z⟩:∃x,x=n.natAbs.gcd g:=⟨_,rfl⟩;obtain⟨i,e⟩:=asU p q O n (by rw[<-bB,<-A,<-v];exact bD) k (by rw[<-bB];exact z);rw[<-bB,<-v]at e;by_cases t:n=0
    .rw[b3 t];simp only[go_sem];exact DQ dh (JJ (by rw[i,t,Int.zero_tdiv]))
    .rw[bP t];rw[bP m]at u;have a0:0<k:=by rw[z];exact Nat.gcd_pos_of_pos_right _ ap
     have am:k∣g:=by rw[z];exact xe _ _
     have V:k∣q.den:=Nat.dvd_trans am X;have W:((k:Nat):Int)≠0:=aa;have U:eP b (k:Int):=eP.nat (fu (Nat.le_of_dvd (lC ac) V) d.den);have B:=Ct n (g:Int) (fK H (k:=38) aa ai) (fK L (k:=38) aa ai);rw[eU,<-z]at B;have F:=Af n (k:Int) W (fK H (k:=38) aa ai) (fK U (k:=38) aa ai);have G:=Af (q.den:Int) (k:Int) W (fK d.m6 (k:=38) aa ai) (fK U (k:=38) aa ai);rw[I2]at G;rw[<-i]at F;obtain⟨y,I⟩:∃x,x=q.den/k:=⟨_,rfl⟩;rw[<-I]at G;have al:eP b (y:Int):=eP.nat (fu (by rw[I];exact js _ _) d.den);have E:=sX (s:Int) (y:Int) (fK P (k:=38) aa ai) (fK al (k:=38) aa ai);have ae:s*y=(p+q).den:=by rw[e,I,Nat.mul_div_assoc _ V]
     rw[<-fF,ae]at E;have r:=EC (p+q);unfold cZ cc at r;rw[iN,iN]at B;rw[iN]at F;rw[iN,iN,iN]at G;rw[iN s,iN y]at E;unfold ck dK at r E B F;simp only[go_sem,Nd];refine use u ?_;simp only[go_sem,YI];refine bq B dh ?_;simp only[go_sem,YH];refine use F ?_;simp only[go_sem,true_and];refine use G ?_;simp only[go_sem,true_and];refine use E ?_;simp only[go_sem];refine use r ?_;simp only[go_sem];exact bO dh rfl (ig _)
def asQ(p q:Rat){a:Nat}(f:aM a p)(g:aM d q)(e:a+d+1<=1900):cU 107 [cZ p,cZ q] (cZ (p-q)):=by refine dg (.f2 (ig _) (ig _)) (bg ano ?_);have c:=asO q;have b:=JF p (-q) f g.neg e;rw[<-Rat.sub_eq_add_neg]at b;unfold cZ cc at c b;simp only[go_sem,d107,YD,cZ,cc];refine use c ?_;simp only[go_sem,true_and];refine bq b dh ?_;simp only[go_sem];exact bO dh rfl (ig _)
def MG(n:Int)(b:Nat){a:Nat}(k:b≠0)(o:eP a n)(e:eP d (b:Int))(s:a<=1900)(t:d<=1900):cU 175 [ck n,ck (b:Int)] (.aH [ck (n.tdiv (n.natAbs.gcd b:Nat)),ck ((b/n.natAbs.gcd b:Nat):Int)]):=by
 refine dg (.f2 (gd _) (gd _)) (bg an1 ?_);have c:=Ae (b:Int);have p:decide ((b:Int)=1)=decide (b=1):=decide_eq_decide.2 aa;rw[p]at c;obtain⟨g,bB⟩:∃g,g=n.natAbs.gcd b:=⟨_,rfl⟩;rw[<-bB];have r:g∣b:=by rw[bB];exact xe _ _
 have u:0<g:=by rw[bB];exact Nat.gcd_pos_of_pos_right _ (lC k)
 have m:((g:Nat):Int)≠0:=aa;have l:eP d (g:Int):=by unfold eP at e⊢;rw[eU]at e⊢;exact fu (Nat.le_of_dvd (lC k) r) e
 have h:=Ct n (b:Int) (fK o (k:=38) aa ai) (fK e (k:=38) aa ai);rw[eU,<-bB]at h;have j:=Af n (g:Int) m (fK o (k:=38) aa ai) (fK l (k:=38) aa ai);have f:=Af (b:Int) (g:Int) m (fK e (k:=38) aa ai) (fK l (k:=38) aa ai);rw[I2]at f;unfold ck dK at c h j f;by_cases i:b=1
 .rw[b3 i]at c;simp only[go_sem,d175,NB,ck,dK];refine use c ?_;simp only[go_sem,true_and];refine bO dh ?_ (.aH (.f2 (gd _) (gd _)));have q:g=1:=by rw[bB,i];exact xg _
  rw[q,pA,show((1:Nat):Int)=1 from rfl,Int.tdiv_one]
 .rw[bP i]at c;simp only[go_sem,d175,NB,ck,dK];refine use c ?_;simp only[go_sem,abq];refine bq h dh ?_;simp only[go_sem,abp];refine use j ?_;simp only[go_sem,true_and];refine use f ?_;simp only[go_sem];exact bO dh rfl (.aH (.f2 (gd _) (gd _)))
set_option maxHeartbeats 1000000 in
def Td(p q:Rat){a b:Nat}(g:aM a p)(i:aM b q)(H:a+b<=1900):cU 111 [cZ p,cZ q] (cZ (p*q)):=by
 refine dg (.f2 (ig _) (ig _)) (bg ans ?_);obtain⟨v,w⟩:=atu p q;have c:=zp p.num;have e:=zp q.num;have f:=xG p;have n:=xG q;have dp:=BI p;have j:=BI q;have o:=MG p.num q.den q.den_nz g.kg i.m6 aa aa;have r:=MG q.num p.den p.den_nz i.kg g.m6 aa aa;have y:eP a (p.num.tdiv (p.num.natAbs.gcd q.den:Nat)):=eP.tdiv g.kg;have z:eP b (q.num.tdiv (q.num.natAbs.gcd p.den:Nat)):=eP.tdiv i.kg;have A:eP a ((p.den/q.num.natAbs.gcd p.den:Nat):Int):=eP.nat (fu (js _ _) g.den);have B:eP b ((q.den/p.num.natAbs.gcd q.den:Nat):Int):=eP.nat (fu (js _ _) i.den);have l:=sX _ _ (fK y (k:=38) aa ai) (fK z (k:=38) aa ai);have m:=sX _ _ (fK A (k:=38) aa ai) (fK B (k:=38) aa ai);rw[<-v]at l;rw[<-fF,<-w]at m;have k:=EC (p*q);unfold ck dK at c e dp j o r l m k;unfold cZ cc at dp j k;have x:p.num=0\/q.num=0->p*q=0:=λh=>JJ (by
  rw[v];rcases h with h|h
  .rw[h,Int.zero_tdiv,Int.zero_mul]
  .rw[h,Int.zero_tdiv,Int.mul_zero])
 by_cases s:p.num=0
 .rw[b3 s]at c;simp only[go_sem,d111,AN,cZ,cc];refine use c ?_;simp only[go_sem];exact DQ dh (x (.inl s))
 rw[bP s]at c;by_cases u:q.num=0
 .rw[b3 u]at e;simp only[go_sem,d111,AN,cZ,cc];refine use c ?_;simp only[go_sem];refine use e ?_;simp only[go_sem];exact DQ dh (x (.inr u))
 rw[bP u]at e;by_cases d:p.den=1/\q.den=1
 .rw[b3 d.1]at f;rw[b3 d.2]at n;have mm:=sX p.num q.num (fK g.kg (k:=38) aa ai) (fK i.kg (k:=38) aa ai);have D:(p*q).num=p.num*q.num:=by rw[v,d.1,d.2,xg,xg,show((1:Nat):Int)=1 from rfl,Int.tdiv_one,Int.tdiv_one]
  have C:(p*q).den=1:=by rw[w,d.1,d.2,xg,xg]
  rw[<-D]at mm;unfold ck dK at mm;simp only[go_sem,d111,AN,GH,cZ,cc];refine use c ?_;simp only[go_sem];refine use e ?_;simp only[go_sem];refine use f ?_;simp only[go_sem];refine use n ?_;simp only[go_sem];refine use mm ?_;simp only[go_sem];exact Q0 dh C
 .have G:∀F:Fr,True:=λ_=>trivial
  by_cases t:p.den=1
  .have E:¬q.den=1:=λh=>d ⟨t,h⟩
   rw[b3 t]at f;rw[bP E]at n;simp only[go_sem,d111,AN,GH,cZ,cc];refine use c ?_;simp only[go_sem];refine use e ?_;simp only[go_sem];refine use f ?_;simp only[go_sem];refine use n ?_;simp only[go_sem,Nc];refine use j ?_;simp only[go_sem,true_and];refine bq o dh ?_;simp only[go_sem,Nb];refine use dp ?_;simp only[go_sem,true_and];refine bq r dh ?_;simp only[go_sem,Na];refine use l ?_;simp only[go_sem,true_and];refine use m ?_;simp only[go_sem];refine use k ?_;simp only[go_sem];exact bO dh rfl (ig _)
  .rw[bP t]at f;simp only[go_sem,d111,AN,GH,cZ,cc];refine use c ?_;simp only[go_sem];refine use e ?_;simp only[go_sem];refine use f ?_;simp only[go_sem,Nc];refine use j ?_;simp only[go_sem,true_and];refine bq o dh ?_;simp only[go_sem,Nb];refine use dp ?_;simp only[go_sem,true_and];refine bq r dh ?_;simp only[go_sem,Na];refine use l ?_;simp only[go_sem,true_and];refine use m ?_;simp only[go_sem];refine use k ?_;simp only[go_sem];exact bO dh rfl (ig _)
def Uu(a:h.den=1):aO h=zt h.num:=by unfold aO zt;rw[ay a,hU]
def Ur(a:h.den≠1):aO h=zt h.num++[47]++zt (h.den:Int):=by
 have b:zt (h.den:Int)=dec h.den:=by rw[Cv aa,eU]
 rw[b];unfold aO zt;rw[ao a];simp
def akw(z:Int)(a: -9223372036854775808<=z/\z<9223372036854775808):cU 167 [aj z] (.str (zt z)):=by refine dg (.f1 .ii) (bg anV ?_);simp only[go_sem,d167,abg];refine bq (QK z a) e5 ?_;simp only[go_sem];exact bO e5 rfl (.str _)
def U6(h:af (az q.natAbs)<=30):af (zt q)<=602:=by have:=PA h;unfold zt;split<;>simp<;>omega
def BJ(q:Rat){k:Nat}(p:aM k q)(B:k<=1900):cU 108 [cZ q] (.str (aO q)):=by
 refine dg (.f1 (ig _)) (bg anp ?_);have b:=xG q;have g:=p.kg.len (k:=30) aa;have bG:=p.m6.len (k:=30) aa;have hi:=awA q.num aa;have r:=awP q.num g;unfold ck dK at hi r;by_cases a:q.den=1
 .rw[b3 a]at b;rw[Uu a];simp only[go_sem,d108,M9,cZ,cc];refine use b ?_;simp only[go_sem];refine use hi ?_;unfold uY;by_cases d: -9223372036854775808<=q.num/\q.num<9223372036854775808
  .rw[ay d];simp only[go_sem];refine bq (akw q.num d) dh ?_;simp only[go_sem];exact bO dh rfl (.str _)
  .rw[ao d];simp only[go_sem];refine bq r dh ?_;simp only[go_sem];exact bO dh rfl (.str _)
 .rw[bP a]at b;rw[Ur a];have G:=U6 g;have H:=U6 bG;simp only[go_sem,d108,M9,YF,cZ,cc];refine use b ?_;simp only[go_sem];have n:GT (dV.push (an (cc q) 0)):=e5.push ai _;have j:=KE q.num g (dV.push (an (cc q) 0)) (fA.n8 (l:=[]) (m:=2000) .nil ai) e7 n (by show 5<=6;decide) (.inl rfl);unfold ck dK at j;refine j.mono ?_;rintro I v ⟨E,t,u⟩;rw[fS]at t;have C:6<=v.ag:=u.ag;simp only[go_sem];refine z9 t 47 aa aa rfl ?_;intro J i e y s;have f:=u.trans s;have D:=s.ag;have o:e=0\/5<=e:=by
   rcases f.key with h|⟨_,h⟩
   .exact .inl h
   .have A:6<e:=h;omega
  have m:=wk f n (by show 5<=6;decide) (.inl rfl);have c:i.get 5=an (cc q) 0:=by rw[f.keep 5 (by show 5<6;decide) (.inl rfl),ah.bl,ay I5]
  unfold cc at c;rw[kL a]at c;simp only[go_sem,YE,c];have l:=KE (q.den:Int) bG i y e7 m aa o;rw[iN]at l;refine l.mono ?_;rintro K z ⟨F,w,x⟩;simp only[go_sem,w.str];exact bO (wk x m aa o) rfl (.str _)
def oe(p:Ao):V:=.aH [.agg [.bool p.neg,.str p.num,.str p.den],.bool p.ok]
def aj4(p:Ao):bA (oe p):=.aH (.f2 (.agg (.f3 .bb .ss .ss)) .bb)
theorem MX(s:aW)(hl:af s<=1000000000):bm 186 [.str s] (.aH [.str (fH s),.str (gS s)]):=by have h:=Yb (fH s) (gS s) (v7 s) (λc l e=>atJ e) (by grind [bw,xI]);rw[xI]at h;exact h
def PL(s:aW):af (fH s)<=af s:=by have:=congrArg af (xI s);rw[bw]at this;omega
theorem Kb(s:aW)(hl:af s<=1000000000):bm 121 [.str s] (oe (eL s)):=by
 have V:=Yc s hl;refine dM (.f1 .ss) (aj4 _) (bg anA ?_);obtain⟨neg,J⟩:∃b,b=decide (s.take 1=[45]):=⟨_,rfl⟩;obtain⟨r,A⟩:∃r,r=if s.take 1=[45]then s.drop 1 else s:=⟨_,rfl⟩
 have U:bm 185 [.str s,.str [45]] (.aH [.str r,.bool neg]):=by
  by_cases h:s.take 1=[45]
  .grind
  .grind
 have W:af r<=1000000000:=by
  rw[A];split
  .rw[lB];omega
  .exact hl
 have Q:=MX r W;have O:eL s=(if fH r=[48]then(⟨neg,fH r,[], !neg&&decide (gS r=[])⟩:Ao)else if fH r=[]\/(fH r).head?=some 48 then⟨neg,fH r,[],false⟩else if gS r=[]then⟨neg,fH r,[],true⟩else if(gS r).head?≠some 47 then⟨neg,fH r,[],false⟩else⟨neg,fH r,fH ((gS r).drop 1),decide (gS ((gS r).drop 1)=[]/\fH ((gS r).drop 1)≠[]/\(fH ((gS r).drop 1)).head?≠some 48/\fH ((gS r).drop 1)≠[49])⟩):=by rw[J,A];rfl
 rw[O];clear O V A J;have P:af (gS r)<=af r:=by have:=congrArg af (xI r);rw[bw]at this;omega
 generalize fH r=n at*
 generalize gS r=t at*
 simp only[go_sem,d121,Zh,Zg];refine use U ?_;simp only[go_sem,Zf,Ze];refine use Q ?_;by_cases q:n=[48]
 .rw[ay q];have a:decide (n=[48])=true:=b3 q;cases neg with
  |true=>simp only[go_sem,xF,a,oe];rfl
  |false=>simp only[go_sem,xF,a,oe];rfl
 .rw[ao q];have a:decide (n=[48])=false:=bP q;by_cases j:n=[]
  .rw[ay (.inl j)];have g:decide (n=[])=true:=b3 j;simp only[go_sem,xF,a,g,oe]
  .obtain⟨c,m,N⟩:∃c m,n=c::m:=by
    cases n with
    |nil=>exact absurd rfl j
    |cons c m=>exact⟨c,m,rfl⟩
   have g:decide (n=[])=false:=bP j;have z:oa [.str n,aj 0]=some (.val (.int .u8 (c.toNat:Int))):=u0 ai (by rw[N];rfl);by_cases B:c=48
   .rw[ay (.inr (by rw[N,B];rfl))];have l:decide (((c.toNat:Nat):Int)=48)=true:=b3 (by rw[B];rfl);simp only[go_sem,xF,a,g,z,l,oe]
   .have T:¬(n=[]\/n.head?=some 48):=by
     rintro(h|h)
     .exact j h
     .grind
    rw[ao T];have l:decide (((c.toNat:Nat):Int)=48)=false:=bP λe=>B (UInt8.toNat_inj.1 (by show c.toNat=48;omega))
    by_cases k:t=[]
    .rw[ay k];have v:decide (t=[])=true:=b3 k;simp only[go_sem,xF,a,g,z,l,v,oe]
    .rw[ao k];obtain⟨x,p,f⟩:∃c m,t=c::m:=by
      cases t with
      |nil=>exact absurd rfl k
      |cons c m=>exact⟨c,m,rfl⟩
     have v:decide (t=[])=false:=bP k;have M:oa [.str t,aj 0]=some (.val (.int .u8 (x.toNat:Int))):=u0 ai (by rw[f];rfl);by_cases u:x=47
     .have H:¬t.head?≠some 47:=λh=>h (by rw[f,u];rfl)
      rw[ao H];have F:decide (((x.toNat:Nat):Int)=47)=true:=b3 (by rw[u];rfl);have S:t.drop 1=p:=by rw[f];rfl
      have X:slice3 ov true false false [.str t,aj 1]=some (.val (.str p)):=by rw[B8 ⟨ai,by rw[f];simp;omega⟩,f];rfl
      have R:=MX p (by rw[f]at P;simp at P;omega);rw[S];generalize fH p=d at*
      generalize gS p=e at*
      simp only[go_sem,xF,Zd,a,g,z,l,v,M,F,X];refine use R ?_;by_cases C:e=[]
      .have i:decide (e=[])=true:=b3 C;by_cases D:d=[]
       .have o:decide (d=[])=true:=b3 D;simp only[go_sem,AO,i,o,oe]
        grind
       .obtain⟨y,Y,L⟩:∃c m,d=c::m:=by
         cases d with
         |nil=>exact absurd rfl D
         |cons c m=>exact⟨c,m,rfl⟩
        have o:decide (d=[])=false:=bP D;have I:oa [.str d,aj 0]=some (.val (.int .u8 (y.toNat:Int))):=u0 ai (by rw[L];rfl);by_cases E:y=48
        .have w:decide (((y.toNat:Nat):Int)=48)=true:=b3 (by rw[E];rfl);simp only[go_sem,AO,i,o,I,w,oe]
         grind
        .have w:decide (((y.toNat:Nat):Int)=48)=false:=bP λe=>E (UInt8.toNat_inj.1 (by show y.toNat=48;omega))
         have Z:d.head?≠some 48:=by rw[L];simpa using E
         by_cases K:d=[49]
         .have G:decide (d=[49])=true:=b3 K;simp only[go_sem,AO,i,o,I,w,G,oe]
          grind
         .have G:decide (d=[49])=false:=bP K;simp only[go_sem,AO,i,o,I,w,G,oe]
          grind
      .have i:decide (e=[])=false:=bP C;simp only[go_sem,AO,i,oe];rw[bP (λh=>C h.1)]
     .have H:t.head?≠some 47:=by rw[f];simpa using u
      rw[ay H];have F:decide (((x.toNat:Nat):Int)=47)=false:=bP λe=>u (UInt8.toNat_inj.1 (by show x.toNat=47;omega))
      simp only[go_sem,xF,a,g,z,l,v,M,F,oe]
def wQ(z:Int)(d:aW):V:=if d=[]\/c9 z.natAbs (dv d)=1 then .aH [.agg [.bool (decide (z<0)),bx (az z.natAbs),aR,bx (if d=[]then []else az (dv d))],cY]else .aH [cZ 0,aR]
def S_:V.agg [aR,.row 0 [],aR,.row 0 []]=cZ 0:=by unfold cZ cc;rw[show(0:Rat).num=0 from rfl,show dd 0=0 from rfl,Int.natAbs_zero,k9];rfl
def QV(a:GT b):GT b/\∃u,bS b (dV.nW b.ag) (.aH [.agg [aR,.aA,aR,.aA],aR]) u/\bA u/\u=.aH [cZ 0,aR]:=by refine⟨a,_,.aH (.f2 (.agg (.f4 .mm .gK .mm .gK)) .mm),?_⟩;rw[S_];exact⟨.aH (.f2 (ig 0) .bb),rfl⟩
def Ti(z:Int)(d:aW)(t:∀c∈d,gx c)(u:af d<=570)(x:af (az z.natAbs)<80)(w:af (az (dv d))<80)(s:Bool)(n:aW)(F:Fr)(H:ah)(j:rd 2 F=.ptr 5 0)(p:rd 4 F=.ptr 6 0)(k:rd 6 F=.ptr 7 0)(g:H.get 5=an [aR,.aA,aR,.aA] 0)(o:H.get 6=an [.bool s,.str n,.str d] 0)
 (bp:H.get 7=an [.bool (decide (z<0)),bx (az z.natAbs),aR,.aA] 0) (e:GT H):
 bK (pc 163 3) (gC [.cell 2 true 4,.tmp 3] λy f=>GT f/\∃v,bS f (dV.nW f.ag) y v/\bA v/\v=wQ z d) F H:=by
 by_cases a:d=[]
 .have l:decide (d=[])=true:=b3 a;simp only[go_sem,Nt,j,p,k,g,o,bp,l];refine⟨e.set ai _,_,.aH (.f2 (.agg (.f4 .mm .mm .mm .gK)) .mm),?_⟩;unfold wQ;rw[ay (.inl a),ay a];exact⟨.aH (.f2 (.agg (.f4 .bb (eF _) .bb (.row 0 .nil))) .bb),rfl⟩
 .have l:decide (d=[])=false:=bP a;have q:=Ew d t u;rw[iN]at q;have m:=Ct z (dv d:Int) x (by rw[eU];exact w);rw[eU,iN (dv d)]at m;have i:=Ae ((c9 z.natAbs (dv d):Nat):Int);have r:decide (((c9 z.natAbs (dv d):Nat):Int)=1)=decide (c9 z.natAbs (dv d)=1):=decide_eq_decide.2 aa;rw[r]at i;unfold ck dK at m i;simp only[go_sem,Nt,abb,p,o,l];refine use q ?_;simp only[go_sem,aba,k,bp];refine bq m (e.set ai _) ?_;simp only[go_sem];refine use i ?_;by_cases b:c9 z.natAbs (dv d)=1
  .rw[b3 b];simp only[go_sem,aa',j,k,g];refine bO ((e.set ai _).set ai _) ?_ ?_
   .unfold wQ;rw[ay (.inr b),ao a]
   .unfold wQ;rw[ay (.inr b)];exact .aH (.f2 (.agg (.f4 .bb (eF _) .bb (eF _))) .bb)
  .rw[bP b];simp only[go_sem,j,g];unfold wQ;rw[ao (by rintro(h|h);exact a h;exact b h)];exact QV ((e.set ai _).set ai _)
theorem Jp(s:aW):(∀c∈(eL s).num,gx c)/\(eL s).num.length<=af s/\(∀c∈(eL s).den,gx c)/\(eL s).den.length<=af s:=by
 obtain⟨r,d⟩:∃r,r=if s.take 1=[45]then s.drop 1 else s:=⟨_,rfl⟩
 have f:af r<=af s:=by
  rw[d];split
  .rw[lB];omega
  .omega
 have i:=PL r;have b:af (fH r)<=af s:=aa;have g:af (gS r)<=af r:=by have:=congrArg af (xI r);rw[bw]at this;omega
 have e:=PL ((gS r).drop 1);rw[lB]at e;have j:af (fH ((gS r).drop 1))<=af s:=aa;have a:∀c∈([]:aW),gx c:=λc h=>by cases h
 unfold eL;simp only[<-d];split
 .exact⟨v7 r,b,a,cj _⟩
 .split
  .exact⟨v7 r,b,a,cj _⟩
  .split
   .exact⟨v7 r,b,a,cj _⟩
   .split
    .exact⟨v7 r,b,a,cj _⟩
    grind [v7]
def wH(s:aW):V:=match numOf s with
 |some q=>.aH [cZ q,.bool true]
 |none=>.aH [cZ 0,.bool false]
variable{C:aW}
def Es(a:numOf C=some h):wH C=.aH [cZ h,cY]:=by unfold wH;rw[a]
def I_(h:numOf C=none):wH C=.aH [cZ 0,aR]:=by unfold wH;rw[h]
theorem as9(s:aW)(g:(eL s).ok=true):wQ (if(eL s).neg then-(dv (eL s).num:Int)else(dv (eL s).num:Int)) (eL s).den=wH s:=by
 have d:(if(eL s).neg then-(dv (eL s).num:Int)else(dv (eL s).num:Int)).natAbs=dv (eL s).num:=by split<;>simp
 cases b:numOf s with
 |some q=>
  have e:=Bw b;rw[Es b];have c:=E2 q;rw[<-e]at c;rw[c];simp only[sk];have f:(if decide (q.num<0)=true then-(q.num.natAbs:Int)else(q.num.natAbs:Int))=q.num:=by
   by_cases h:q.num<0
   .rw[ay (b3 h)];omega
   .rw[ao (by simpa using h)];omega
  rw[f];unfold wQ vZ;by_cases a:q.den=1
  .rw[ay a,ay (.inl rfl),ay rfl];unfold cZ cc;rw[nZ a,k9]
  .rw[ao a,sk,ay (.inr q.reduced),ao (uO _)];unfold cZ cc;rw[kL a]
 |none=>
  rw[I_ b];unfold wQ;rw[d];have:¬((eL s).den=[]\/c9 (dv (eL s).num) (dv (eL s).den)=1):=λh=>by
   unfold numOf at b
   grind
  rw[ao this]
theorem JM(s:aW)(hl:af s<=500):cU 163 [.str s] (wH s):=by
 refine dg (.f1 .ss) (bg anR ?_);obtain⟨g,q,a,o⟩:=Jp s;have f:=as9 s;have i:(eL s).ok≠true->wH s=.aH [cZ 0,aR]:=λh=>I_ (by unfold numOf;rw[ao (λe=>h e.1)])
 simp only[go_sem,d163,abd];refine use (Kb s aa) ?_;unfold oe;generalize eL s=p at*
 obtain⟨neg,n,d,r⟩:=p;simp only at g q a o f i;have j:=Ew n g aa;rw[iN]at j;have k:∀l:aW,(∀c∈l,gx c)->af l<=500->af (az (dv l))<80:=λl hl t=>by
  have m:dv l<2^2000:=@Go.aD.Jx (dv l) 10 (af l) 2 4 2000 (uQ l hl) ai aa ai;have:=(eP.nat m).len (k:=32) ai
  grind
 cases r with
 |false=>rw[i Bool.false_ne_true];simp only[go_sem,Nv];exact QV dh
 |true=>
  rw[<-f rfl];simp only[go_sem,Nv,abc];refine use j ?_;cases neg with
  |true=>
   have b:=UT (dv n:Int);rw[iN]at b;unfold ck dK at b;simp only[go_sem,Nu];refine use b ?_;simp only[go_sem];refine Ti (-(dv n:Int)) d a aa b4 (k d a aa) true n _ _ ?_ ?_ ?_ ?_ ?_ ?_ dh
   iterate 6 simp only[go_sem]
  |false=>
   simp only[go_sem,Nu];refine Ti (dv n:Int) d a aa b4 (k d a aa) false n _ _ ?_ ?_ ?_ ?_ ?_ ?_ dh
   iterate 5 simp only[go_sem]
   .simp only[go_sem]
    grind
def avY(c:UInt8)(a:gx c):aE .u8 (((c.toNat:Nat):Int)-48)=((c.toNat-48:Nat):Int):=by unfold gx at a;have:c.toNat<256:=c.toNat_lt;have e:((c.toNat:Nat):Int)-48=((c.toNat-48:Nat):Int):=aa;rw[e];show((c.toNat-48:Nat):Int)%256=_;omega
def PM(d:aW)(j:∀c∈d,gx c)(hl:af d<=18):bm 184 [.str d] (aj (dv d:Int)):=by
 refine dM (.f1 .ss) (.int _ _) (bg an8 ?_);simp only[go_sem,d184,abU,abT];refine b8 (λk b n=>∃i:Nat,rd 0 b=.str d/\rd 3 b=aj ((dv (d.take i):Nat):Int)/\rd 6 b=aj (af d)/\rd 7 b=aj i/\k=af d-i/\i<=af d) (af d) ⟨0,?_,?_,?_,?_,rfl,cj _⟩ ?_
 .simp only[go_sem]
 .simp only[go_sem];rfl
 .simp only[go_sem]
 .simp only[go_sem];rfl
 rintro k b n ⟨i,l,e,f,m,rfl,hi⟩;rw[abR];by_cases t:i<af d
 .obtain⟨c,g⟩:∃c,d[i]? =some c:=⟨d[i],c4 t⟩;have q:gx c:=j c (fL g);have s:oa [.str d,aj i]=some (.val (.int .u8 (c.toNat:Int))):=u0 aa (by rw[cg];exact g);have y:d.take (i+1)=d.take i++[c]:=by rw[List.take_add_one,g];rfl
  have v:dv (d.take (i+1))=10*dv (d.take i)+(c.toNat-48):=by rw[y,AV]
  have o:=uQ (d.take i) (λc h=>j c (oD h));have p:=uQ (d.take (i+1)) (λc h=>j c (oD h));rw[e8,p7 aa]at o p;have w:10^i<=10^18:=iI ai aa;have x:10^(i+1)<=10^18:=iI ai aa;have E:(10:Nat)^18=1000000000000000000:=ai;rw[E]at w x;have z:=avY c q;generalize dv (d.take i)=a at*
  have B:aE .i64 (10*(a:Int))=((10*a:Nat):Int):=by rw[aK _ aa];omega
  have F:c.toNat<256:=c.toNat_lt;have A:aE .i64 ((c.toNat-48:Nat):Int)=((c.toNat-48:Nat):Int):=aK _ aa;have C:aE .i64 (((10*a:Nat):Int)+((c.toNat-48:Nat):Int))=((dv (d.take (i+1)):Nat):Int):=by rw[aK _ aa,v];omega
  have D:aE .i64 ((i:Int)+1)=((i+1:Nat):Int):=by rw[aK _ aa];rfl
  have u:((i:Int)<(af d:Int)):=aa;simp(disch:=assumption)only[go_sem,NK,abQ,abP,l,e,f,m,dt,s,z,A,B,C,D];refine⟨af d-(i+1),aa,i+1,?_,?_,?_,?_,rfl,aa⟩
  iterate 4 simp only[go_sem,l,f]
 .have r:i=af d:=aa;subst r;rw[dr (aJ _)]at e;have u:¬((af d:Int)<(af d:Int)):=aa;simp(disch:=assumption)only[go_sem,NK,abS,e,f,m,df]
def Q7(a b:Nat)(j:a<9223372036854775808)(l:b<9223372036854775808):bm 160 [aj a,aj b] (aj (c9 a b:Int)):=by
 refine dM (.f2 .ii .ii) (.int _ _) (bg anQ ?_);simp only[go_sem,d160,aa8];refine b8 (λk c h=>∃x:Nat,rd 0 c=aj x/\rd 1 c=aj k/\c9 x k=c9 a b) b ⟨a,?_,?_,rfl⟩ ?_
 iterate 2 simp only[go_sem]
 rintro k c h ⟨x,e,f,d⟩;rw[aa6];by_cases g:k=0
 .subst g;rw[Nat.gcd_zero_right]at d;have i:((0:Nat):Int)=0:=rfl;simp only[go_sem,aa7,e,f,i,decide_true,jQ];rw[d]
 .have m:¬((k:Nat):Int)=0:=aa;simp(disch:=assumption)only[go_sem,aa5,e,f,df,lS,nY,z3];refine⟨x%k,fD _ (lC g),k,?_,?_,?_⟩
  iterate 2 simp only[go_sem]
  .rw[<-d,rX x k,Nat.gcd_rec k x,rX]
def gT(s:aW):Option Rat:=if(af s)<=20/\(eL s).num.length<=9/\(eL s).den.length<=9 then numOf s else none
def pP:Option Rat->au
 |some q=>[.int .i64 q.num,.int .i64 (q.den:Int)]
 |none=>[.int .i64 0,.int .i64 0]
def zS(o:Option Rat):V:=.aH [.agg (pP o),.bool o.isSome]
def A0(o:Option Rat):bA (.agg (pP o)):=by
 cases o with
 |none=>exact .agg (.f2 .ii .ii)
 |some q=>exact .agg (.f2 .ii .ii)
def aj6(o:Option Rat):bA (zS o):=.aH (.f2 (A0 o) .bb)
theorem TK(s:aW)(c:(eL s).ok=true)(h:(eL s).den=[]\/c9 (dv (eL s).num) (dv (eL s).den)=1):∃q,numOf s=some q/\q.num=(if(eL s).neg then-(dv (eL s).num:Int)else(dv (eL s).num:Int))/\q.den=if(eL s).den=[]then 1 else dv (eL s).den:=by
 obtain⟨q,b⟩:∃q,numOf s=some q:=⟨_,by unfold numOf;rw[ay ⟨c,h⟩]⟩;refine⟨q,b,?_⟩;have d:=Bw b;rw[d,E2 q];simp only[sk];constructor
 .grind
 .unfold vZ;by_cases a:q.den=1
  .rw[ay a,ay rfl,a]
  .rw[ao a,ao (uO _),sk]
def TL(s:aW)(h:¬((eL s).ok=true/\((eL s).den=[]\/c9 (dv (eL s).num) (dv (eL s).den)=1))):numOf s=none:=by unfold numOf;rw[ao h]
def Dw(d:aW)(a:∀c∈d,gx c)(hl:af d<=9):dv d<1000000000:=fy (uQ d a) (iI ai hl)
def J8(s:aW)(E:af s<=1000000000):bm 120 [.str s] (zS (gT s)):=by
 refine dM (.f1 .ss) (aj6 _) (bg anz ?_);by_cases y:af s<=20
 .obtain⟨u,D,m,B⟩:=Jp s;have t:=TK s;have w:=TL s;have i:gT s=if(eL s).num.length<=9/\(eL s).den.length<=9 then numOf s else none:=by
   unfold gT;by_cases h:(eL s).num.length<=9/\(eL s).den.length<=9
   .rw[ay ⟨y,h⟩,ay h]
   .rw[ao (λe=>h e.2),ao h]
  have k:decide ((20:Int)<((af s:Nat):Int))=false:=bP aa;simp only[go_sem,d120,Nh,Zc,k];refine use (Kb s E) ?_;rw[i];unfold oe;generalize numOf s=o at*
  generalize eL s=p at*
  obtain⟨neg,n,d,F⟩:=p;simp only at u D m B t w i⊢;cases F with
  |false=>have:o=none:=w (λh=>Bool.false_ne_true h.1);rw[this,ite_self];simp only[go_sem,Dd];rfl
  |true=>
   by_cases v:af n<=9
   .have c:decide ((9:Int)<((af n:Nat):Int))=false:=bP aa;by_cases r:af d<=9
    .have l:decide ((9:Int)<((af d:Nat):Int))=false:=bP aa;rw[ay ⟨v,r⟩];have H:=Dw n u v;have G:=Dw d m r;have A:=PM n u aa;have dd:=PM d m aa;have C:=Q7 (dv n) (dv d) aa aa;simp only[go_sem,Dd,Zb,c,l];refine use A ?_;have z:aE .i64 (-(dv n:Int))= -(dv n:Int):=aK _ aa;by_cases a:d=[]
     .have f:decide (d=[])=true:=b3 a;obtain⟨q,rfl,j,b⟩:=t rfl (.inl a);rw[ay a]at b;unfold zS pP;simp only[ta];rw[j,b];cases neg with
      |true=>
       simp only[go_sem,GI,Dc,Db,f,z]
       all_goals first|trivial|rfl
      |false=>
       simp only[go_sem,GI,Dc,Db,f,jk]
       all_goals first|trivial|rfl
     .have f:decide (d=[])=false:=bP a;simp only[go_sem,GI,f];refine use dd ?_;simp only[go_sem];refine use C ?_;by_cases x:c9 (dv n) (dv d)=1
      .obtain⟨q,rfl,j,b⟩:=t rfl (.inr x);rw[ao a]at b;unfold zS pP;simp only[ta];rw[j,b];have g:decide (((c9 (dv n) (dv d):Nat):Int)=1)=true:=b3 aa;cases neg with
       |true=>
        simp only[go_sem,Dc,Db,g,z]
        all_goals first|trivial|rfl
       |false=>
        simp only[go_sem,Dc,Db,g,jk]
        all_goals first|trivial|rfl
      .have:o=none:=w (λh=>h.2.elim a x);rw[this];have g:decide (((c9 (dv n) (dv d):Nat):Int)=1)=false:=bP aa;simp only[go_sem,g];rfl
    .have l:decide ((9:Int)<((af d:Nat):Int))=true:=b3 aa;rw[ao (λh=>r h.2)];simp only[go_sem,Dd,c,l];rfl
   .have c:decide ((9:Int)<((af n:Nat):Int))=true:=b3 aa;rw[ao (λh=>v h.1)];simp only[go_sem,Dd,c];rfl
 .have k:decide ((20:Int)<((af s:Nat):Int))=true:=b3 aa;have i:gT s=none:=by unfold gT;rw[ao (λe=>y e.1)]
  rw[i];simp only[go_sem,d120,Nh,k];rfl
def qz(s t:aW):V:=match gT s,gT t with
 |some p,some q=>.aH [.agg (pP (some p)),.agg (pP (some q)),.bool true]
 |_,_=>.aH [.agg (pP none),.agg (pP none),.bool false]
def aj5(s t:aW):bA (qz s t):=by
 unfold qz;split
 .exact .aH (.f3 (A0 _) (A0 _) .bb)
 .exact .aH (.f3 (A0 _) (A0 _) .bb)
def B1(s t:aW)(c:af s<=1000000000)(d:af t<=1000000000):bm 104 [.str s,.str t] (qz s t):=by
 refine dM (.f2 .ss .ss) (aj5 _ _) (bg anl ?_);have a:=J8 s c;have b:=J8 t d;unfold qz;generalize gT s=o at*
 generalize gT t=u at*
 unfold zS at a b;simp only[go_sem,d104,Yw];refine use a ?_;cases o with
 |none=>simp only[go_sem,M5,ta,pP]
 |some p=>
  simp only[go_sem,M5,Yv,ta,pP];refine use b ?_;cases u with
  |none=>simp only[go_sem,M4,ta,pP]
  |some q=>
   simp only[go_sem,M4,Yu,ta,pP]
   all_goals first|trivial|rfl
end Go.Proofs.YtddhncjmaahodaaGreatDoor
namespace Go.aD
def rv(s:aW):Rat:=(numOf s).getD 0
theorem eT(q:Rat):rv (aO q)=q:=by unfold rv;rw[rz];rfl
variable{C:aW}{h:Rat}
def oq(a:numOf C=some h):rv C=h:=by unfold rv;rw[a];rfl
def J2(h:numOf C=none):rv C=0:=by unfold rv;rw[h];rfl
theorem avU:aO 0=[48]:=rfl
def SF:numOf [48]=some 0:=rz 0
def Kv{q:Rat}(h:q.num<0):aO q=45::aO (-q):=by unfold aO;have a:(-q).num= -q.num:=rfl;have b:(-q).den=q.den:=rfl;rw[ay h,a,b,ao (aa:¬-q.num<0),pY];rfl
def avT(b:0<h.num):aO (-h)=45::aO h:=by have a:(-h).num= -h.num:=rfl;have:=Kv (q:= -h) (by rw[a];omega);rw[this,Rat.neg_neg]
def Us:(∃t,aO h=45::t)↔h.num<0:=by
 constructor
 .rintro⟨t,b⟩;refine qI λi=>?_
  have f:aO h=dec h.num.natAbs++(if h.den=1 then []else 47::dec h.den):=by unfold aO;rw[ao i];rfl
  rw[f]at b;cases a:dec h.num.natAbs with
  |nil=>exact uO _ a
  |cons c l=>
   rw[a]at b;have d:gx c:=vY h.num.natAbs c (by rw[a];exact .head _);injection b with g _
   rw[g]at d;exact absurd d ai
 .intro e;exact⟨_,Kv e⟩
def avR:aO h=[48]↔h=0:=⟨λa=>by have:=eT h;rw[a]at this;rw[<-this,oq SF],λa=>by rw[a];rfl⟩
end Go.aD
namespace Go.Proofs.YtddhncjmaahodaaGreatDoor
open Go.ax Go.aD
variable{C:aW}
def BW{L:Nat}(h:af C<=L):aM (4*L+1) (rv C):=by
 cases a:numOf C with
 |none=>
  rw[J2 a];refine⟨?_,?_⟩
  .show 0<2^(4*L+1);exact Nat.two_pow_pos _
  .show 1<2^(4*L+1);exact Nat.one_lt_two_pow aa
 |some q=>
  rw[oq a];have i:=Bw a;have d:∀ {n l:Nat},af (dec n)<=l->l<=L->n<2^(4*L+1):=λ{n l} e f=>by have b:=uQ (dec n) (vY n);rw[sk]at b;refine fy b ?_;refine c5 (iI ai (c5 e f)) ?_;have:(10:Nat)^L<=(2^4)^L:=Nat.pow_le_pow_left ai L;rw[<-Nat.pow_mul]at this;exact c5 this (iI ai aa)
  have g:af (dec q.num.natAbs)+af (if q.den=1 then []else 47::dec q.den)<=af C:=by rw[i];unfold aO;rw[bw,bw];omega
  refine⟨d (l:=af C) aa h,?_⟩;by_cases c:q.den=1
  .rw[c];exact Nat.one_lt_two_pow aa
  .rw[ao c,dZ]at g;exact d (l:=af C) aa h
def ue(s:aW)(hl:af s<=500):cU 106 [.str s] (cZ (rv s)):=by
 refine dg (.f1 .ss) (bg ann ?_);have h:=JM s hl;have b:wH s=.aH [cZ (rv s),.bool (numOf s).isSome]:=by
  cases a:numOf s with
  |none=>rw[I_ a,J2 a];rfl
  |some q=>rw[Es a,oq a];rfl
 rw[b]at h;unfold cZ cc at h;simp only[go_sem,d106,YC];refine bq h dh ?_;simp only[go_sem,YB];exact bO dh rfl (ig _)
variable{h:Rat}
def sH(a:gT C=some h):numOf C=some h/\h.num.natAbs<1000000000/\h.den<1000000000:=by
 unfold gT at a;split at a
 .rename_i f;refine⟨a,?_⟩;have i:=Bw a;rw[i,E2]at f;obtain⟨_,e,b⟩:=f;simp only at e b;have c:=Dw _ (vY h.num.natAbs) e;rw[sk]at c;refine⟨c,?_⟩;unfold vZ at b;by_cases g:h.den=1
  .rw[g];decide
  .rw[ao g]at b;have d:=Dw _ (vY h.den) b;rw[sk]at d;exact d
 .cases a
def vw(s:aW)(hl:af s<=500):cU 72 [.str s] (.bool (numOf s).isSome):=by
 refine dg (.f1 .ss) (bg apt ?_);have a:=J8 s aa;unfold zS at a;simp only[go_sem,d72,aif];refine use a ?_;cases x:gT s with
 |some q=>simp only[go_sem,ta,pP];rw[(sH x).1];exact bO dh rfl (.bool _)
 |none=>
  simp only[go_sem,aie,ta,pP];refine use (Kb s aa) ?_;obtain⟨k,w,g,v⟩:=Jp s;have j:=TK s;have m:=TL s;unfold oe;generalize numOf s=o at*
  generalize eL s=p at*
  obtain⟨neg,n,d,A⟩:=p;simp only at k w g v j m;cases A with
  |false=>have:o=none:=m (λh=>Bool.false_ne_true h.1);rw[this];simp only[go_sem,HD];exact bO dh rfl (.bool _)
  |true=>
   by_cases b:d=[]
   .have f:decide (d=[])=true:=b3 b;obtain⟨q,e,_⟩:=j rfl (.inl b);rw[e];simp only[go_sem,HD,f];exact bO dh rfl (.bool _)
   .have f:decide (d=[])=false:=bP b;have y:=Ew n k aa;have z:=Ew d g aa;have t:∀l:aW,(∀c∈l,gx c)->af l<=500->af (az (dv l))<80:=λl hl B=>by have u:dv l<2^2000:=@Go.aD.Jx (dv l) 10 (af l) 2 4 2000 (uQ l hl) ai aa ai;have:=(eP.nat u).len (k:=32) ai;rw[eU]at this;omega
    have i:=Ct (dv n:Int) (dv d:Int) (by rw[eU];exact t n k aa) (by rw[eU];exact t d g aa);rw[eU,eU]at i;have a:=Ae ((c9 (dv n) (dv d):Nat):Int);simp only[go_sem,HD,aid,f];refine use y ?_;simp only[go_sem,true_and];refine use z ?_;unfold ck dK at i a⊢;simp only[go_sem];refine bq i dh ?_;simp only[go_sem];refine use a ?_;simp only[go_sem];by_cases r:c9 (dv n) (dv d)=1
    .obtain⟨q,e,_⟩:=j rfl (.inr r);rw[e,b3 (aa:((c9 (dv n) (dv d):Nat):Int)=1)];exact bO dh rfl (.bool _)
    .have:o=none:=m (λh=>h.2.elim b r);rw[this,bP (aa:¬((c9 (dv n) (dv d):Nat):Int)=1)];exact bO dh rfl (.bool _)
def ari(s:aW)(hl:af s<=500):cU 100 [.str s] (.str (aO (-(rv s)))):=by
 refine dg (.f1 .ss) (bg anh ?_);have r:=vw s hl;by_cases d:s=[48]
 .have h:decide (s=[48])=true:=b3 d;simp only[go_sem,d100,MZ,h];rw[d,oq SF];exact bO dh rfl (.str _)
 .have h:decide (s=[48])=false:=bP d;simp only[go_sem,d100,MZ,h];refine bq r dh ?_;cases g:numOf s with
  |none=>simp only[go_sem,ta];rw[J2 g];exact bO dh rfl (.str _)
  |some q=>
   have a:=Bw g;rw[oq g];have v:q.num≠0:=λe=>d (by rw[a,avR];exact Rat.num_eq_zero.1 e)
   obtain⟨c,t,b⟩:∃c t,s=c::t:=by
    cases b:s with
    |nil=>rw[b]at a;have:=congrArg af a;unfold aO at this;rw[bw,bw]at this;have:=xH q.num.natAbs;simp at*;omega
    |cons c t=>exact⟨c,t,rfl⟩
   have j:oa [.str s,aj 0]=some (.val (.int .u8 (c.toNat:Int))):=u0 ai (by rw[b];rfl);by_cases f:c=45
   .have n:q.num<0:=Us.1 ⟨t,by rw[<-a,b,f]⟩;have i:decide (((c.toNat:Nat):Int)=45)=true:=b3 (by rw[f];rfl);have p:slice3 ov true false false [.str s,aj 1]=some (.val (.str (aO (-q)))):=by have:=Kv n;rw[<-a]at this;rw[B8 ⟨ai,by rw[b];simp;omega⟩,this];rfl
    simp only[go_sem,ta,j,i,p];exact bO dh rfl (.str _)
   .have o:0<q.num:=by
     refine qI λg=>?_
     obtain⟨u,k⟩:=Us.2 (aa:q.num<0);rw[<-a,b]at k;injection k with l _
     exact f l
    have i:decide (((c.toNat:Nat):Int)=45)=false:=bP λe=>f (UInt8.toNat_inj.1 (by show c.toNat=45;omega))
    have m:sK (tD .add) [.str [45],.str s]=some (.val (.str (45::s))):=BX (s:=[45]) (t:=s) e7;simp only[go_sem,Ye,ta,j,i,m];refine bO dh ?_ (.str _);rw[avT o,<-a]
def MP(x:Int):bm 233 [aj x] aR:=by refine dM (.f1 .ii) (.bool _) (bg aom ?_);have a:decide (x=x)=true:=b3 rfl;simp only[go_sem,d233,acY];trivial
def Xx(x y:Int):bm 170 [aj x,aj y] (aj (fW x y)):=by
 refine dM (.f2 .ii .ii) (.int _ _) (bg anW ?_);simp only[go_sem,d170,abk];refine use (MP x) ?_;simp only[go_sem,abj];refine use (MP y) ?_;unfold fW;by_cases a:x<y
 .rw[ay a];simp(disch:=assumption)only[go_sem,GO,GN,GM,dt]
 .rw[ao a];by_cases b:y<x
  .rw[ay b];simp(disch:=assumption)only[go_sem,GO,GN,GM,Nz,df,dt]
  .rw[ao b];simp(disch:=assumption)only[go_sem,GO,GN,GM,Nz,abi,df]
def Xy(x y:Int):bm 109 [aj x,aj y] (aj (fW x y)):=by refine dM (.f2 .ii .ii) (.int _ _) (bg anq ?_);simp only[go_sem,d109,YG];refine use (Xx x y) ?_;simp only[go_sem]
theorem aq6(n:Int)(h: -9223372036854775808<n):q6 max2 [aj n,aj (-n)]=some (.val (aj n.natAbs)):=by
 have e:max2 (aj n) (aj (-n))=some (aj n.natAbs):=by
  show some (V.int .i64 (match l7 n (-n)with|true=> -n|false=>n))=_;rw[qj];by_cases b:n< -n
  .grind
  .grind
 show aq (aq (max2 (aj n) (aj (-n))) λa=>some a) (λv=>some (bh.val v))=_;rw[e];rfl
def U7{z:Int}(h:z.natAbs<9223372036854775808):af (zt z)<=21:=by have:=HK (aa:z.natAbs<18446744073709551616);unfold zt;split<;>simp<;>omega
theorem awV:([V.int .u8 0,.int .u8 0,.int .u8 0,.int .u8 0,.int .u8 0,.int .u8 0,.int .u8 0,.int .u8 0,.int .u8 0,.int .u8 0,.int .u8 0,.int .u8 0,.int .u8 0,.int .u8 0,.int .u8 0,.int .u8 0,.int .u8 0,.int .u8 0,.int .u8 0,.int .u8 0,.int .u8 0,.int .u8 0,.int .u8 0,.int .u8 0,.int .u8 0,.int .u8 0,.int .u8 0,.int .u8 0,.int .u8 0,.int .u8 0,.int .u8 0,.int .u8 0,.int .u8 0,.int .u8 0,.int .u8 0,.int .u8 0,.int .u8 0,.int .u8 0,.int .u8 0,.int .u8 0,.int .u8 0,.int .u8 0,.int .u8 0,.int .u8 0,.int .u8 0,.int .u8 0,.int .u8 0,.int .u8 0]:au)=cV (aZ 48 0):=rfl
def QL(n d:Int)(w:n.natAbs<9223372036854775808)(E:0<d/\d<9223372036854775808)(F:Fr)(f:rd 0 F=aj n)(b:rd 1 F=aj d):
 bK (pc 105 4) (gC [.tmp 4] λp a=>GT a/\∃v,bS a (dV.nW a.ag) p v/\bA v/\v=.str (if d=1 then zt n else zt n++[47]++zt d)) F dV:=by
 by_cases i:d=1
 .rw[ay i];have s:=QK n aa;simp(disch:=assumption)only[go_sem,M6,f,b,dt];refine bq s e5 ?_;simp only[go_sem];exact bO e5 rfl (.str _)
 .rw[ao i];have y:slice3 (ou 48 1) false true false [.ptr 5 0,aj 0]=some (.val (.slice 5 0 0 (.known 48))):=by rw[EY,tV aa];rfl
  have j:GT (dV.push (an (cV (aZ 48 0)) 0)):=e5.push ai _;have t:(dV.push (an (cV (aZ 48 0)) 0)).get 5=an (cV (aZ 48 0)) 0:=by rw[ah.bl,ay I5]
  have r:fA (dV.push (an (cV (aZ 48 0)) 0)) (.slice 5 0 0 (.known 48)) [] 5 48 true:=.bM (l:=[]) (rest:=aZ 48 0) (by rw[fS];exact t) rfl (nO 5) ai ai;have I:=U7 w;have J:=U7 (z:=d) aa;simp(disch:=assumption)only[go_sem,M6,YA,Yz,b,df];rw[awV];simp only[go_sem,y,f];refine(Li n aa _ r e7 j (by show 5<=6;decide) (.inr (aJ 5))).mono ?_;rintro p a ⟨l,o,c⟩;rw[fS]at o;have x:=c.ag;have G:6<=a.ag:=x;have q:=wk c j (by show 5<=6;decide) (.inr (aJ 5));have u:l=0\/5<=l:=by have:(dV.push (an (cV (aZ 48 0)) 0)).ag=6:=rfl;rcases c.key with h|⟨_,h⟩<;>omega
  simp only[go_sem,Yy];refine z9 o 47 aa aa rfl ?_;intro K C m A e;have H:=e.ag;have g:=wk e q aa u;have k:m=0\/5<=m:=by rcases e.key with h|⟨_,h⟩<;>omega
  simp only[go_sem,Yx,b];refine(Li d aa _ A e7 g aa k).mono ?_;rintro L D ⟨bX,B,z⟩;simp only[go_sem,B.str];exact bO (wk z g aa k) rfl (.str _)
def DN(n d:Int)(x:n.natAbs<4611686018427387904)(u:0<d/\d<4611686018427387904):cU 105 [aj n,aj d] (.str (aO (mkRat n d.toNat))):=by
 refine dg (.f2 .ii .ii) (bg anm ?_);have j:d.toNat≠0:=aa;have c:decide (d<0)=false:=bP aa;have l:=zD n j;have m:=El n j;have q:aO (mkRat n d.toNat)=if((mkRat n d.toNat).den:Int)=1 then zt (mkRat n d.toNat).num else zt (mkRat n d.toNat).num++[47]++zt ((mkRat n d.toNat).den:Int):=by
  by_cases h:(mkRat n d.toNat).den=1
  .rw[Uu h,ay aa]
  .rw[Ur h,ao aa]
 rw[q,l,m];by_cases b:d=1
 .subst b;have a:c9 n.natAbs (1:Int).toNat=1:=xg _;rw[a,show((1:Nat):Int)=1 from rfl,Int.tdiv_one];have e:decide ((1:Int)=1)=true:=rfl;simp only[go_sem,d105,M8,M7,c];refine QL n 1 aa aa _ ?_ ?_
  iterate 2 simp only[go_sem]
 .have e:decide (d=1)=false:=bP b;have r:aE .i64 (-n)= -n:=aK _ aa;have a:=Q7 n.natAbs d.toNat aa aa;rw[(aa:((d.toNat:Nat):Int)=d)]at a;have i:0<c9 n.natAbs d.toNat:=Nat.gcd_pos_of_pos_right _ aa;have f:c9 n.natAbs d.toNat<=d.toNat:=Nat.gcd_le_right _ aa;have p:c9 n.natAbs d.toNat∣d.toNat:=xe _ _;obtain⟨g,bB⟩:∃g,g=c9 n.natAbs d.toNat:=⟨_,rfl⟩;rw[<-bB]at a i f p⊢;have k:((g:Nat):Int)≠0:=aa;have y:(n.tdiv (g:Int)).natAbs<=n.natAbs:=by rw[Int.natAbs_tdiv];exact js _ _
  have s:aE .i64 (n.tdiv (g:Int))=n.tdiv (g:Int):=aK _ aa;have o:d.tdiv (g:Int)=((d.toNat/g:Nat):Int):=by have:=t_ d.toNat g;rw[(aa:((d.toNat:Nat):Int)=d)]at this;exact this
  have v:d.toNat/g<=d.toNat:=js _ _;have w:0<d.toNat/g:=Nat.div_pos f i;have t:aE .i64 (d.tdiv (g:Int))=((d.toNat/g:Nat):Int):=by rw[o];exact aK _ aa
  simp only[go_sem,d105,M8,M7,c,e,r,aq6 n aa];refine use a ?_;simp only[go_sem,j5 .i64 n (g:Int) k,j5 .i64 d (g:Int) k,s,t];refine QL (n.tdiv (g:Int)) ((d.toNat/g:Nat):Int) aa aa _ ?_ ?_
  iterate 2 simp only[go_sem]
def mZ{a b:Int}(c:a.natAbs<1000000000)(d:b.natAbs<1000000000):(a*b).natAbs<1000000000000000000:=by rw[nM];have:=iP (Nat.le_of_lt_succ c:a.natAbs<=999999999) (Nat.le_of_lt_succ d:b.natAbs<=999999999);omega
variable{d:Nat}
def Ep{a:Nat}(b:a≠0)(c:d≠0):0<(a:Int)*(d:Int):=Int.mul_pos aa aa
def BY{t:aW}{q:Rat}(a:gT C=some h)(b:gT t=some q):qz C t=.aH [.agg [aj h.num,aj h.den],.agg [aj q.num,aj q.den],cY]:=by unfold qz;rw[a,b];rfl
theorem tT{t:aW}(h:gT C=none\/gT t=none):qz C t=.aH [.agg [aj 0,aj 0],.agg [aj 0,aj 0],aR]:=by
 unfold qz;rcases h with h|h
 .rw[h];rfl
 .rw[h];split
  .rename_i a;cases a
  .rfl
theorem tA(s t:aW)(l:af s<=500)(m:af t<=500){a b:Nat}(h:aM a (rv s))(i:aM b (rv t))(A:a+b<=1900):cU 57 [.str s,.str t] (aj (e6 (rv s-rv t))):=by
 refine dg (.f2 .ss .ss) (bg apj ?_);have c:=B1 s t aa aa;simp only[go_sem,d57,ahw];have r:qz s t=.aH [.agg [aj 0,aj 0],.agg [aj 0,aj 0],aR]\/∃p q,gT s=some p/\gT t=some q:=by
  cases y:gT s with
  |none=>grind [tT]
  |some p=>
   cases z:gT t with
   |none=>grind [tT]
   |some q=>grind
 rcases r with j|⟨p,q,d,e⟩
 .rw[j]at c;refine use c ?_;have u:=ue s l;have v:=ue t m;have k:=asK (rv s) (rv t) h i aa;simp only[go_sem,ahv];refine bq u dh ?_;simp only[go_sem];refine bq v dh ?_;simp only[go_sem];refine use k ?_;simp only[go_sem];exact bO dh rfl (.int _ _)
 .obtain⟨n,f,G⟩:=sH d;obtain⟨o,g,H⟩:=sH e;rw[BY d e]at c;rw[oq n,oq o];have B:=mZ (a:=p.num) (b:=(q.den:Int)) f aa;have C:=mZ (a:=q.num) (b:=(p.den:Int)) g aa;have D:=mZ (a:=(p.den:Int)) (b:=(q.den:Int)) aa aa;have E:=mZ (a:=p.num) (b:=q.num) f g;have F:=Ep p.den_nz q.den_nz;have w:aE .i64 (p.num*(q.den:Int))=p.num*(q.den:Int):=aK _ aa;have x:aE .i64 (q.num*(p.den:Int))=q.num*(p.den:Int):=aK _ aa;have I:aE .i64 ((p.den:Int)*(q.den:Int))=(p.den:Int)*(q.den:Int):=aK _ aa;have J:aE .i64 (p.num*q.num)=p.num*q.num:=aK _ aa;have K:aE .i64 (p.num*(q.den:Int)+q.num*(p.den:Int))=p.num*(q.den:Int)+q.num*(p.den:Int):=aK _ aa;have L:aE .i64 (p.num*(q.den:Int)-q.num*(p.den:Int))=p.num*(q.den:Int)-q.num*(p.den:Int):=aK _ aa;refine use c ?_;simp only[go_sem,w,x];rw[TG];refine use (Xy _ _) ?_;simp only[go_sem];exact bO dh rfl (.int _ _)
theorem au_(s t:aW)(n:af s<=500)(r:af t<=500){a b:Nat}(d:aM a (rv s))(e:aM b (rv t))(F:a+b+1<=1900):cU 56 [.str s,.str t] (.str (aO (rv s-rv t))):=by
 refine dg (.f2 .ss .ss) (bg api ?_);have c:=B1 s t aa aa;simp only[go_sem,d56,ahu];have w:qz s t=.aH [.agg [aj 0,aj 0],.agg [aj 0,aj 0],aR]\/∃p q,gT s=some p/\gT t=some q:=by
  cases D:gT s with
  |none=>grind [tT]
  |some p=>
   cases E:gT t with
   |none=>grind [tT]
   |some q=>grind
 rcases w with k|⟨p,q,g,h⟩
 .rw[k]at c;refine use c ?_;have x:=ue s n;have y:=ue t r;have l:=asQ (rv s) (rv t) d e aa;simp only[go_sem,aht];refine bq x dh ?_;simp only[go_sem];refine bq y dh ?_;simp only[go_sem];refine bq l dh ?_;simp only[go_sem];have o:=BJ (rv s-rv t) (k:=a+b+1) (d.sub e) aa;refine bq o dh ?_;simp only[go_sem];exact bO dh rfl (.str _)
 .obtain⟨u,i,L⟩:=sH g;obtain⟨v,j,M⟩:=sH h;rw[BY g h]at c;rw[oq u,oq v];have G:=mZ (a:=p.num) (b:=(q.den:Int)) i aa;have H:=mZ (a:=q.num) (b:=(p.den:Int)) j aa;have I:=mZ (a:=(p.den:Int)) (b:=(q.den:Int)) aa aa;have J:=mZ (a:=p.num) (b:=q.num) i j;have K:=Ep p.den_nz q.den_nz;have z:aE .i64 (p.num*(q.den:Int))=p.num*(q.den:Int):=aK _ aa;have A:aE .i64 (q.num*(p.den:Int))=q.num*(p.den:Int):=aK _ aa;have B:aE .i64 ((p.den:Int)*(q.den:Int))=(p.den:Int)*(q.den:Int):=aK _ aa;have N:aE .i64 (p.num*q.num)=p.num*q.num:=aK _ aa;have O:aE .i64 (p.num*(q.den:Int)+q.num*(p.den:Int))=p.num*(q.den:Int)+q.num*(p.den:Int):=aK _ aa;have C:aE .i64 (p.num*(q.den:Int)-q.num*(p.den:Int))=p.num*(q.den:Int)-q.num*(p.den:Int):=aK _ aa;refine use c ?_;simp only[go_sem,z,A,B,C];have f:=DN (p.num*(q.den:Int)-q.num*(p.den:Int)) ((p.den:Int)*(q.den:Int)) aa aa;have m:mkRat (p.num*(q.den:Int)-q.num*(p.den:Int)) ((p.den:Int)*(q.den:Int)).toNat=p-q:=by
   have:((p.den:Int)*(q.den:Int)).toNat=p.den*q.den:=by rw[<-fF];exact cg _
   rw[this];rw[Rat.sub_eq_add_neg,yN,Rat.neg_den,Rat.neg_num,Int.neg_mul,<-Int.sub_eq_add_neg]
  rw[m]at f;refine bq f dh ?_;simp only[go_sem];exact bO dh rfl (.str _)
theorem Vu(s t:aW)(n:af s<=500)(r:af t<=500){a b:Nat}(d:aM a (rv s))(e:aM b (rv t))(F:a+b+1<=1900):cU 59 [.str s,.str t] (.str (aO (rv s+rv t))):=by
 refine dg (.f2 .ss .ss) (bg apl ?_);have c:=B1 s t aa aa;simp only[go_sem,d59,ahA];have w:qz s t=.aH [.agg [aj 0,aj 0],.agg [aj 0,aj 0],aR]\/∃p q,gT s=some p/\gT t=some q:=by
  cases D:gT s with
  |none=>grind [tT]
  |some p=>
   cases E:gT t with
   |none=>grind [tT]
   |some q=>grind
 rcases w with k|⟨p,q,g,h⟩
 .rw[k]at c;refine use c ?_;have x:=ue s n;have y:=ue t r;have l:=JF (rv s) (rv t) d e aa;simp only[go_sem,ahz];refine bq x dh ?_;simp only[go_sem];refine bq y dh ?_;simp only[go_sem];refine bq l dh ?_;simp only[go_sem];have o:=BJ (rv s+rv t) (k:=a+b+1) (d.add e) aa;refine bq o dh ?_;simp only[go_sem];exact bO dh rfl (.str _)
 .obtain⟨u,i,L⟩:=sH g;obtain⟨v,j,M⟩:=sH h;rw[BY g h]at c;rw[oq u,oq v];have G:=mZ (a:=p.num) (b:=(q.den:Int)) i aa;have H:=mZ (a:=q.num) (b:=(p.den:Int)) j aa;have I:=mZ (a:=(p.den:Int)) (b:=(q.den:Int)) aa aa;have J:=mZ (a:=p.num) (b:=q.num) i j;have K:=Ep p.den_nz q.den_nz;have z:aE .i64 (p.num*(q.den:Int))=p.num*(q.den:Int):=aK _ aa;have A:aE .i64 (q.num*(p.den:Int))=q.num*(p.den:Int):=aK _ aa;have B:aE .i64 ((p.den:Int)*(q.den:Int))=(p.den:Int)*(q.den:Int):=aK _ aa;have N:aE .i64 (p.num*q.num)=p.num*q.num:=aK _ aa;have C:aE .i64 (p.num*(q.den:Int)+q.num*(p.den:Int))=p.num*(q.den:Int)+q.num*(p.den:Int):=aK _ aa;have O:aE .i64 (p.num*(q.den:Int)-q.num*(p.den:Int))=p.num*(q.den:Int)-q.num*(p.den:Int):=aK _ aa;refine use c ?_;simp only[go_sem,z,A,B,C];have f:=DN (p.num*(q.den:Int)+q.num*(p.den:Int)) ((p.den:Int)*(q.den:Int)) aa aa;have m:mkRat (p.num*(q.den:Int)+q.num*(p.den:Int)) ((p.den:Int)*(q.den:Int)).toNat=p+q:=by
   have:((p.den:Int)*(q.den:Int)).toNat=p.den*q.den:=by rw[<-fF];exact cg _
   rw[this];rw[yN]
  rw[m]at f;refine bq f dh ?_;simp only[go_sem];exact bO dh rfl (.str _)
theorem aq1(s t:aW)(n:af s<=500)(r:af t<=500){a b:Nat}(d:aM a (rv s))(e:aM b (rv t))(D:a+b<=1900):cU 58 [.str s,.str t] (.str (aO (rv s*rv t))):=by
 refine dg (.f2 .ss .ss) (bg apk ?_);have c:=B1 s t aa aa;simp only[go_sem,d58,ahy];have w:qz s t=.aH [.agg [aj 0,aj 0],.agg [aj 0,aj 0],aR]\/∃p q,gT s=some p/\gT t=some q:=by
  cases B:gT s with
  |none=>grind [tT]
  |some p=>
   cases C:gT t with
   |none=>grind [tT]
   |some q=>grind
 rcases w with k|⟨p,q,g,h⟩
 .rw[k]at c;refine use c ?_;have x:=ue s n;have y:=ue t r;have l:=Td (rv s) (rv t) d e aa;simp only[go_sem,ahx];refine bq x dh ?_;simp only[go_sem];refine bq y dh ?_;simp only[go_sem];refine bq l dh ?_;simp only[go_sem];have o:=BJ (rv s*rv t) (k:=a+b) (d.mul e) aa;refine bq o dh ?_;simp only[go_sem];exact bO dh rfl (.str _)
 .obtain⟨u,i,J⟩:=sH g;obtain⟨v,j,K⟩:=sH h;rw[BY g h]at c;rw[oq u,oq v];have E:=mZ (a:=p.num) (b:=(q.den:Int)) i aa;have F:=mZ (a:=q.num) (b:=(p.den:Int)) j aa;have G:=mZ (a:=(p.den:Int)) (b:=(q.den:Int)) aa aa;have H:=mZ (a:=p.num) (b:=q.num) i j;have I:=Ep p.den_nz q.den_nz;have L:aE .i64 (p.num*(q.den:Int))=p.num*(q.den:Int):=aK _ aa;have M:aE .i64 (q.num*(p.den:Int))=q.num*(p.den:Int):=aK _ aa;have z:aE .i64 ((p.den:Int)*(q.den:Int))=(p.den:Int)*(q.den:Int):=aK _ aa;have A:aE .i64 (p.num*q.num)=p.num*q.num:=aK _ aa;have N:aE .i64 (p.num*(q.den:Int)+q.num*(p.den:Int))=p.num*(q.den:Int)+q.num*(p.den:Int):=aK _ aa;have O:aE .i64 (p.num*(q.den:Int)-q.num*(p.den:Int))=p.num*(q.den:Int)-q.num*(p.den:Int):=aK _ aa;refine use c ?_;simp only[go_sem,z,A];have f:=DN (p.num*q.num) ((p.den:Int)*(q.den:Int)) aa aa;have m:mkRat (p.num*q.num) ((p.den:Int)*(q.den:Int)).toNat=p*q:=by
   have:((p.den:Int)*(q.den:Int)).toNat=p.den*q.den:=by rw[<-fF];exact cg _
   rw[this];rw[Bq]
  rw[m]at f;refine bq f dh ?_;simp only[go_sem];exact bO dh rfl (.str _)
theorem kz:aU 0=[]:=pn (Nat.eq_zero_of_not_pos λh=>(uP 0).1 h rfl)
section
variable {α:Type} (f:α->au) (k:Nat)
def c3:List α->au
 |[]=>[]
 |a::l=>f a++c3 l
def bE(l:List α):V:=.row (af l) (c3 f l)
def lN{k:Nat}(b:∀a,af (f a)=k):∀l,af (c3 f l)=af l*k
 |[]=>by simp[c3]
 |a::l=>by simp only[c3,bw,lN b l,b a,dZ,qR];omega
def yd:∀(l m:List α),c3 f (l++m)=c3 f l++c3 f m
 |[],_=>rfl
 |t::l,m=>by simp only[gv,c3,yd l m,gX]
def atH(b:∀a,af (f a)=d)(l:List α)(i:Nat):(c3 f l).drop (i*d)=c3 f (l.drop i):=by
 induction l generalizing i with
 |nil=>simp[c3]
 |cons t l c=>
  cases i with
  |zero=>simp
  |succ i=>rw[qR,i_];show(f t++c3 f l).drop (d+i*d)=c3 f (l.drop i);rw[<-b t,List.drop_length_add_append,b t,c]
def jO{f:α->au}{k:Nat}(b:∀a,af (f a)=k){l:List α}{a:α}(h:l[d]? =some a):cW (eH (c3 f l) (d*k)) k=some (f a):=by obtain⟨hi,rfl⟩:=jo.1 h;rw[l8,atH f b,mQ hi];show cW (f l[d]++c3 f _) k=_;rw[fB,ay (by rw[bw,b];omega),<-b l[d],vL]
def Ii(b:∀a,ct (f a)):∀l,ct (c3 f l)
 |[]=>.nil
 |a::l=>l5 (b a) (Ii b l)
def hH{f:α->au}(b:∀a,ct (f a))(l:List α):bA (bE f l):=.row _ (Ii f b l)
@[go_sem]theorem az1(l:List α):di (bE f l)=some (.val (aj (af l))):=rfl
def iq{f:α->au}{k:Nat}{l:List α}{i:Int}{ik:IntKind}(h:0<=i/\i<af l):dO none k [bE f l,.int ik i]=some (.val (.dY (c3 f l) (i.toNat*k))):=nx h
variable{b:ah}{I:ah}{c:au}{m:Nat}
def uV{f:α->au}(q:∀a,af (f a)=d)(i:0<d){v:V}{l:List α}(h:bn b d v c m)(o:dn b I c (c3 f l))(j:∀y,m≠0->b.get y=an c m->I.get y=.none)(n:af c=af l*d):bS b I v (bE f l):=by obtain⟨p,e,g⟩:=h.eA (H2:=I) i j o;rw[n]at g;have:p=af l:=Nat.eq_of_mul_eq_mul_right i g;rw[this]at e;exact e
end
abbrev e4:=aW×aW
def bZ(s:e4):au:=[.str s.1,.str s.2]
def ia(l:List e4):V:=.agg [bE bZ l]
def lZ(s:e4):ct (bZ s):=.f2 .ss .ss
def qg(l:List e4):bA (ia l):=.agg (.f1 (hH lZ l))
structure dF where
 lo:Rat
 hi:Rat
 hl:Bool
 hh:Bool
def gL(s:dF):au:=bk s.lo++(bk s.hi++[.bool s.hl,.bool s.hh])
theorem pO(s:dF):af (gL s)=10:=rfl
def Qn(s:dF):ct (gL s):=l5 (mE _) (l5 (mE _) (.f2 .bb .bb))
def iH(l:List dF):V:=bE gL l
def v_(l:List dF):bA (iH l):=hH Qn l
def yM:au:=[aR,.aA,aR,.aA]
variable{a:Nat}
def asI{z:Int}(h:z.natAbs<2^a)(b:0<a):aM a (z:Rat):=⟨h,Nat.one_lt_two_pow aa⟩
def UO:aS:=(.c7 [ex 11 (bz none 10 (rd 7) (rd 9)),ex 12 (bG true 10 (rd 11)),ex 5 (alloc [aR,.aA,aR,.aA,aR,.aA,aR,.aA,aR,aR]),bD (st 10 (rd 5) (rd 12))])
def UP:aS:=(.c7 [ex 6 (alloc [(.str []),(.str [])])])
def Fv:aS:=(.seq (.c7 [ex 13 (fa 8 (rd 5)),ex 14 (bG false 1 (rd 13))]) (.cond (rd 14) (.c7 [ex 15 (fa 0 (rd 5)),ex 16 (bG true 4 (rd 15)),ex 17 (bU 22 [(rd 16)]),ex 18 (fa 0 (rd 6)),bD (st 1 (rd 18) (rd 17))]) .skip))
def Fw:aS:=(.seq (.c7 [ex 19 (fa 9 (rd 5)),ex 20 (bG false 1 (rd 19))]) (.cond (rd 20) (.c7 [ex 21 (fa 4 (rd 5)),ex 22 (bG true 4 (rd 21)),ex 23 (bU 22 [(rd 22)]),ex 24 (fa 1 (rd 6)),bD (st 1 (rd 24) (rd 23))]) .skip))
def UQ:aS:=(.c7 [ex 25 (fa 0 (rd 3)),ex 26 (bG false 1 (rd 25)),ex 27 (bG true 2 (rd 6)),ex 28 (cn 1 [(0,2)] [(.str []),(.str [])] [(rd 27)]),ex 29 (ap 2 32 (rd 26) (rd 28)),ex 30 (fa 0 (rd 3)),bD (st 1 (rd 30) (rd 29))])
def WR:(pc 12 1)=(.seq (.block 1 (.seq UO (.seq UP (.seq Fv (.seq Fw UQ))))) (pc 12 0)):=Zl
def gB(s:dF):e4:=(if s.hl then aO s.lo else [],if s.hh then aO s.hi else [])
def nT(k:Nat)(s:dF):Prop:=aM k s.lo/\aM k s.hi
theorem mm(s:e4):af (bZ s)=2:=rfl
def aws(s:dF)(k:Nat)(o:k<=30000000)(p:nT k s)(a:aW)(h b:Nat)(F:Fr)(H:ah)(R:b5)(K:cm)(i:rd 5 F=.ptr h 0)(n:rd 6 F=.ptr b 0)(d:H.get h=an (gL s) 0)(j:H.get b=an [.str [],.str []] 0)
 (f:∀(g:Fr) (c:ah),(∀t,t<13->rd t g=rd t F)->c.get b=an [.str (if s.hl then aO s.lo else []),.str []] 0->(∀y,y≠b->c.get y=H.get y)->c.ag=H.ag->K g c):
 bK Fv (gy K R) F H:=by
 obtain⟨lo,hi,hl,hh⟩:=s;obtain⟨l,v⟩:=p;simp only at l v f;have m:=z2 lo l o;simp only[gL,bk,gv,fS]at d;unfold bR bk at m;cases hl with
 |false=>simp only[go_sem,Fv,i,d];refine f _ _ ?_ j (λ_ _=>rfl) rfl;intro t q;simp(disch:=omega)only[go_sem,ao]
 |true=>
  simp only[go_sem,Fv,i,d];refine use m ?_;simp only[go_sem,n,j];refine f _ _ ?_ ?_ ?_ ?_
  .intro t q;simp(disch:=omega)only[go_sem,ao]
  .simp only[go_sem]
  .intro y r;have u:¬b=y:=λe=>r e.symm
   simp only[go_sem,ao u]
  .simp only[go_sem]
def awt(s:dF)(k:Nat)(o:k<=30000000)(p:nT k s)(a:aW)(h b:Nat)(F:Fr)(H:ah)(R:b5)(K:cm)(i:rd 5 F=.ptr h 0)(n:rd 6 F=.ptr b 0)(d:H.get h=an (gL s) 0)(j:H.get b=an [.str a,.str []] 0)
 (f:∀(g:Fr) (c:ah),(∀t,t<13->rd t g=rd t F)->c.get b=an [.str a,.str (if s.hh then aO s.hi else [])] 0->(∀y,y≠b->c.get y=H.get y)->c.ag=H.ag->K g c):
 bK Fw (gy K R) F H:=by
 obtain⟨lo,hi,hl,hh⟩:=s;obtain⟨v,l⟩:=p;simp only at v l f;have m:=z2 hi l o;simp only[gL,bk,gv,fS]at d;unfold bR bk at m;cases hh with
 |false=>simp only[go_sem,Fw,i,d];refine f _ _ ?_ j (λ_ _=>rfl) rfl;intro t q;simp(disch:=omega)only[go_sem,ao]
 |true=>
  simp only[go_sem,Fw,i,d];refine use m ?_;simp only[go_sem,n,j];refine f _ _ ?_ ?_ ?_ ?_
  .intro t q;simp(disch:=omega)only[go_sem,ao]
  .simp only[go_sem]
  .intro y r;have u:¬b=y:=λe=>r e.symm
   simp only[go_sem,ao u]
  .simp only[go_sem]
theorem awM(l:List dF)(k:Nat)(K:k<=30000000)(hl:af l<=1000)(hq:∀s∈l,nT k s):bm 12 [iH l] (ia (l.map gB)):=by
 refine gR (.f1 (v_ l)) (bg zq ?_);simp only[go_sem,d12,Zp,Zo,iH];refine b8 (λm j c=>∃(i:Nat) (v:V) (g:Nat),m=af l-i/\i<=af l/\rd 2 j=.ptr 5 0/\rd 3 j=.ptr 6 0/\rd 7 j=bE gL l/\rd 8 j=aj (af l)/\rd 9 j=aj i/\c.get 5=an [.aA] 0/\c.get 6=an [v] 0/\7<=c.ag/\bn c 2 v (c3 bZ ((l.take i).map gB)) g) (af l) ⟨0,.aA,0,rfl,cj _,?_,?_,?_,?_,?_,?_,?_,?_,.nil⟩ ?_
 iterate 4 simp only[go_sem]
 .simp only[go_sem];rfl
 iterate 2 simp only[go_sem]
 .exact aJ 7
 rintro m j c ⟨i,v,g,rfl,hi,F,G,H,q,r,u,I,a',o⟩;rw[Zm];obtain⟨bb,bc,aw⟩:=o.bM;by_cases ad:i<af l
 .obtain⟨s,A⟩:∃s,l[i]? =some s:=⟨l[i],c4 ad⟩;have L:=hq s (fL A);have E:=jO pO A;have x:decide ((i:Int)<((af l:Nat):Int))=true:=b3 aa;have w1:aE .i64 ((i:Int)+1)=((i+1:Nat):Int):=by rw[aK _ aa];rfl
  have B:=lN bZ mm ((l.take i).map gB);rw[gD,e8,p7 hi]at B;have a3:∀a b:aW,dI [V.str a,.str b]=true:=λ_ _=>rfl
  simp only[gL,bk,gv,fS]at E;simp(disch:=omega)only[go_sem,Ni,WR,UO,UP,H,q,r,x,iq,cg,E];refine aws s k K L [] c.ag (c.ag+1) _ _ _ _ ?_ ?_ ?_ ?_ ?_
  iterate 2 simp only[go_sem]
  .simp(disch:=omega)only[go_sem,ao];rfl
  .simp(disch:=omega)only[go_sem]
  intro O p d Q J ae;have ar:∀y,y<c.ag->p.get y=c.get y:=λy M=>by rw[J y aa];simp(disch:=omega)only[go_sem,ao]
  have al:p.ag=c.ag+2:=by rw[ae];simp only[go_sem]
  have S:p.get c.ag=an (gL s) 0:=by rw[J _ aa];simp(disch:=omega)only[go_sem,ao];rfl
  simp only[go_sem];refine awt s k K L _ c.ag (c.ag+1) _ _ _ _ ?_ ?_ S Q ?_
  .rw[d 5 ai];simp only[go_sem]
  .rw[d 6 ai];simp only[go_sem]
  intro f n bX R Z am;have C:∀y,y<c.ag->n.get y=c.get y:=λy M=>by rw[Z y aa,ar y M]
  have kk:∀t,t<13->rd t f=rd t O:=bX;have T:rd 2 f=.ptr 5 0:=by rw[bX 2 ai,d 2 ai];simp only[go_sem,F]
  have w:rd 3 f=.ptr 6 0:=by rw[bX 3 ai,d 3 ai];simp only[go_sem,G]
  have U:rd 6 f=.ptr (c.ag+1) 0:=by rw[bX 6 ai,d 6 ai];simp only[go_sem]
  have W:rd 7 f=bE gL l:=by rw[bX 7 ai,d 7 ai];simp only[go_sem,H]
  have X:rd 8 f=aj (af l):=by rw[bX 8 ai,d 8 ai];simp only[go_sem,q]
  have Y:rd 9 f=aj i:=by rw[bX 9 ai,d 9 ai];simp only[go_sem,r]
  have Q3:n.get 6=an [v] 0:=by rw[C 6 aa,I]
  have It:n.get 5=an [.aA] 0:=by rw[C 5 aa,u]
  have z:=o.low C aa;simp only[go_sem,UQ,w,U,R,Q3];refine kM (bytes:=32) z rfl ai (a3 _ _) ⟨aa,ai⟩ λv2 D P N bd be bi=>?_
  have a8:g≠6:=by
   rcases z.ne Q3 with h|h
   .omega
   .exactλe=>h e.symm
  have a9:g≠5:=by
   rcases z.ne It with h|h
   .omega
   .exactλe=>h e.symm
  have Q4:D.get 6=an [v] 0:=b4;have akP:D.get 5=an [.aA] 0:=b4;obtain⟨a0,a1,a2⟩:=N.bM;have a7:n.ag=c.ag+2:=by rw[am,al]
  have a6:¬(6=5):=ai;simp only[go_sem,Zk,w,Q4,a0,a1,a2,Y,w1];refine⟨af l-(i+1),aa,i+1,v2,P,rfl,aa,?_,?_,?_,?_,?_,?_,?_,?_,?_⟩
  iterate 7 simp only[go_sem,T,w,W,X,akP]
  .simp only[go_sem];omega
  .refine bn.set ?_ Q4 _;obtain⟨ab,e⟩:=jo.1 A;rw[lT ab,e,vJ,yd];simpa [c3,bZ,gB]using N
 .have ac:i=af l:=aa;subst ac;have x:decide (((af l:Nat):Int)<((af l:Nat):Int))=false:=bP aa;rw[dr (aJ _)]at o;have B:=lN bZ mm (l.map gB);simp only[go_sem,Ni,Zn,F,G,q,r,x,u,I,aw];refine⟨_,.agg (.f1 (uV mm ai (o.set u _) (dn.refl _) (λ_ _ _=>m7) B)),qg _,rfl⟩
abbrev CA:=Rat×Rat
def jU(s:CA):au:=bk s.1++bk s.2
theorem IE(s:CA):af (jU s)=8:=rfl
def Ql(s:CA):ct (jU s):=l5 (mE _) (mE _)
def zR(s:dF):CA:=(s.lo,s.hi)
def jB(s:dF):Bool:=s.hl&&s.hh
def yT(l:List dF):V:=if l.all jB then .aH [bE jU (l.map zR),cY]else .aH [bE jU [],aR]
def Ww(l:List dF)(hl:af l<=1000):bm 20 [iH l] (yT l):=by
 refine gR (.f1 (v_ l)) (bg aob ?_);simp only[go_sem,d20,acu,acs,iH];refine b8 (λm a k=>∃(i:Nat) (v:V) (g:Nat),m=af l-i/\i<=af l/\rd 4 a=v/\rd 7 a=bE gL l/\rd 8 a=aj (af l)/\rd 9 a=aj i/\(l.take i).all jB=true/\bn k 8 v (c3 jU ((l.take i).map zR)) g) (af l) ⟨0,.aA,0,rfl,cj _,?_,?_,?_,?_,rfl,.nil⟩ ?_
 iterate 3 simp only[go_sem]
 .simp only[go_sem];rfl
 rintro m a k ⟨i,v,g,rfl,hi,t,j,b,c,n,o⟩;rw[acq];by_cases G:i<af l
 .obtain⟨s,p⟩:∃s,l[i]? =some s:=⟨l[i],c4 G⟩;have f:=jO pO p;have d:decide ((i:Int)<((af l:Nat):Int))=true:=b3 aa;have N:aE .i64 ((i:Int)+1)=((i+1:Nat):Int):=by rw[aK _ aa];rfl
  have q:=lN jU IE ((l.take i).map zR);rw[gD,e8,p7 hi]at q;obtain⟨E,e⟩:=jo.1 p;have x:l.take (i+1)=l.take i++[s]:=by rw[lT E,e]
  have I:s∈l:=fL p;have r:jB s=false->yT l=.aH [bE jU [],aR]:=λh=>by unfold yT;rw[ao];intro D;have:=qJ.1 D s I;rw[h]at this;cases this
  have w:∀ {H z:ah},∃u,bS H z (.aH [.aA,aR]) u/\bA u/\u=.aH [bE jU [],aR]:=⟨_,.aH (.f2 .gK .mm),.aH (.f2 (hH Ql []) .bb),rfl⟩;obtain⟨lo,hi',A,B⟩:=s;simp only[gL,bk,gv,fS]at f;have K:dI [V.bool (decide (lo.num<0)),mag (aU lo.num.natAbs),aR,mag (aU (dd lo)),.bool (decide (hi'.num<0)),mag (aU hi'.num.natAbs),aR,mag (aU (dd hi'))]=true:=rfl;cases A with
  |false=>rw[r rfl];simp(disch:=omega)only[go_sem,Dg,GV,j,b,c,d,iq,cg,f,lS];exact w
  |true=>
   cases B with
   |false=>rw[r rfl];simp(disch:=omega)only[go_sem,Dg,GV,j,b,c,d,iq,cg,f,lS,jQ];exact w
   |true=>
    simp(disch:=omega)only[go_sem,Dg,GV,t,j,b,c,d,iq,cg,f,jQ];refine kM (H:=(k.push _).set _ _) (bytes:=128) (bn.low o ?_ ?_) rfl ai K ⟨aa,ai⟩ λM O C L Q R S=>?_
    .intro y P;simp(disch:=omega)only[go_sem,ao]
    .simp only[go_sem];omega
    simp only[go_sem,acp,c,N];refine⟨af l-(i+1),aa,i+1,M,C,rfl,aa,?_,?_,?_,?_,?_,?_⟩
    iterate 4 simp only[go_sem,j,b]
    .rw[x,List.all_append,n];rfl
    .rw[x,vJ,yd];simpa [c3,jU,bk,zR]using L
 .have F:i=af l:=aa;subst F;have d:decide (((af l:Nat):Int)<((af l:Nat):Int))=false:=bP aa;rw[dr (aJ _)]at o n;have q:=lN jU IE (l.map zR);have J:yT l=.aH [bE jU (l.map zR),cY]:=ay n;simp only[go_sem,Dg,acr,t,b,c,d];rw[J];exact⟨_,.aH (.f2 (uV IE ai o (dn.refl _) (λ_ _ _=>m7) q) .mm),.aH (.f2 (hH Ql _) .bb),rfl⟩
def CF(a:Bool)(s:dF):Prop:=bF 360360 6486480 s.lo/\bF 360360 6486480 s.hi/\(a=true->s.hl=true/\s.hh=true)
def KP(l:List Int)(n:Nat)(b:Bool)(k:Nat)(F:Fr)(H:ah):Prop:=∃(j i:Nat) (v:V) (g:Nat) (a:List dF),k=n-j/\j<=n/\i<=af l/\rd 0 F=.ptr 5 0/\rd 1 F=aj n/\rd 2 F=.bool b/\rd 7 F=v/\rd 8 F=aj j/\H.get 5=an (dN l i) 0/\6<=H.ag/\bn H 10 v (c3 gL a) g/\af a=j/\∀s∈a,nT 9 s/\s.lo<s.hi/\CF b s
theorem Mb(l:List Int)(hl:af l<=400)(hz:kY l)(n:Nat)(hn:n<=100)(f:Bool)(j:Nat)(hj:j<n)(v:V)(g:Nat)(a:List dF)(S:af a=j)(T:∀s∈a,nT 9 s/\s.lo<s.hi/\CF f s)(z:Int)(a': -3<=z/\z<=3)(c d:Bool)(W:f=true->c=true/\d=true)(i:Nat)(hi:i<=af l)(F:Fr)(H:ah)(b:Nat)(hb:6<=b)(a6:b<H.ag)(C:rd 0 F=.ptr 5 0)(K:rd 1 F=aj n)(L:rd 2 F=.bool f)(M:rd 7 F=v)(N:rd 8 F=aj j)(D:rd 9 F=.ptr b 0)(E:H.get 5=an (dN l i) 0)(X:bn H 10 v (c3 gL a) g)(e3:H.get b=an (bk (z:Rat)++(yM++[.bool c,.bool d])) 0)(R:b5)(Q:∀y A k,k<n-j->KP l n f k y A->R .norm y A):
 bK (.seq (.c7 [ex 30 (fa 0 (rd 9)),ex 31 (bG true 4 (rd 30)),ex 32 (mv (rd 0)),ex 33 (bU 53 [(rd 32)]),re 31 (bG true 4 (rd 30)),ex 34 (bU 37 [(rd 31),(rd 33)]),ex 35 (fa 4 (rd 9)),bD (st 4 (rd 35) (rd 34))]) (.c7 [ex 36 (mv (rd 7)),ex 37 (bG true 10 (rd 9)),ex 38 (cn 1 [(0,10)] [aR,.aA,aR,.aA,aR,.aA,aR,.aA,aR,aR] [(rd 37)]),ex 39 (ap 10 136 (rd 36) (rd 38)),ex 7 (bJ (rd 39))])) (hD 1 (gy (bK (pc 13 0) R) R)) F H:=by
 have t:¬5=b:=aa;have U:¬b=5:=aa;simp only[bk,yM,gv,fS]at e3;simp only[go_sem,C,D,e3];refine jj (asp l hl hz) ai hi E ?_;rintro _ m ⟨q,w,I,rfl⟩ Y;have x:aM 4 (z:Rat):=aM.ofInt aa ai;have G:=yb (z:Rat) q x w ai;have w1:aE .i64 ((j:Int)+1)=((j+1:Nat):Int):=by rw[aK _ aa];rfl
 have a9:=lN gL pO a;have Z:(z:Rat)<(z:Rat)+q:=by
  have:0<q:=by
   have h1:=Rat.num_nonneg.1 (Int.le_of_lt I);have h2:q≠0:=λe=>by subst e;exact absurd I ai
   grind
  grind
 have dh:bF 360360 1081080 (z:Rat):=by have h:=(Rd (z:Rat)).up 360360;rw[Rat.den_intCast,Rat.num_intCast,kn]at h;exact h.mono aa
 have P:=dh.add (Ta w);generalize hr:(z:Rat)+q=r at*
 have ac:aM 9 r:=by rw[<-hr];exact x.add w
 unfold bR bk at G⊢;simp only[go_sem,t,e3,true_and];refine use G ?_;have al:∀p q:Rat,dI [V.bool (decide (p.num<0)),mag (aU p.num.natAbs),aR,mag (aU (dd p)),.bool (decide (q.num<0)),mag (aU q.num.natAbs),aR,mag (aU (dd q)),.bool c,.bool d]=true:=λ_ _=>rfl
 have u:=(X.set E (an (dN l m) 0)).set (y:=b) (by rw[ah.aT,ao t];exact e3) (an (gL ⟨(z:Rat),r,c,d⟩) 0);simp only[gL,bk,gv,fS]at u;simp only[go_sem,M,D,t,e3];refine kM (bytes:=136) u rfl ai (al _ _) ⟨aa,ai⟩ λv2 H4 O q1 ba J ar=>?_
 simp only[kQ]at J ar;have B:∀o:dU,((H.set 5 (an (dN l m) 0)).set b o).get 5=an (dN l m) 0:=λo=>by rw[ah.aT,ao U,ah.aT,ay rfl]
 have aw:=(J 5 aa (u.ne (B _))).trans (B _);simp only[go_sem,Zq,N,w1];refine Q _ _ (n-(j+1)) aa ⟨j+1,m,v2,O,a++[⟨(z:Rat),r,c,d⟩],rfl,aa,Y,?_,?_,?_,?_,?_,aw,aa,?_,?_,?_⟩
 iterate 5 simp only[go_sem,C,K,L]
 .rw[yd];simpa [c3,gL,bk]using q1
 .rw[bw,S];rfl
 .intro s hs;rcases ki.1 hs with h|h
  .exact T s h
  .rw[fj.1 h];exact⟨⟨x.mono ai,ac⟩,Z,dh.mono ai,P,W⟩
def AG:aS:=(.c7 [ex 15 (mv (rd 0)),ex 16 (bU 52 [(rd 15),(kc (aj 3))]),ex 17 (mv (rd 2)),ex 18 (mv (rd 17)),bB 18 false 19 (mv (rd 0)),bB 18 false 20 (bU 11 [(rd 19),(kc (aj 4))]),bB 18 false 21 (bi .gtr (rd 20) (kc (aj 0))),ex 22 (pick (rd 18) (kc cY) (rd 21)),ex 23 (mv (rd 2)),ex 24 (mv (rd 23)),bB 24 false 25 (mv (rd 0)),bB 24 false 26 (bU 11 [(rd 25),(kc (aj 4))]),bB 24 false 27 (bi .gtr (rd 26) (kc (aj 0))),ex 28 (pick (rd 24) (kc cY) (rd 27)),ex 29 (cv [(0,4),(8,1),(9,1)] [aR,.aA,aR,.aA,aR,.aA,aR,.aA,aR,aR] [(rd 16),(rd 22),(rd 28)]),ex 9 (alloc [aR,.aA,aR,.aA,aR,.aA,aR,.aA,aR,aR]),bD (st 10 (rd 9) (rd 29))])
def xC:aS:=(.c7 [ex 30 (fa 0 (rd 9)),ex 31 (bG true 4 (rd 30)),ex 32 (mv (rd 0)),ex 33 (bU 53 [(rd 32)]),re 31 (bG true 4 (rd 30)),ex 34 (bU 37 [(rd 31),(rd 33)]),ex 35 (fa 4 (rd 9)),bD (st 4 (rd 35) (rd 34))])
def WM:aS:=(.c7 [ex 36 (mv (rd 7)),ex 37 (bG true 10 (rd 9)),ex 38 (cn 1 [(0,10)] [aR,.aA,aR,.aA,aR,.aA,aR,.aA,aR,aR] [(rd 37)]),ex 39 (ap 10 136 (rd 36) (rd 38)),ex 7 (bJ (rd 39))])
def Mf:(pc 13 1)=(.seq (.block 1 (.seq AG (.seq xC WM))) (pc 13 0)):=Zr
variable{b:ah}{I:ah}{Q:List dF}
def akG{v:V}(h:bn b 10 v (c3 gL Q) a)(c:∀y,a≠0->b.get y=an (c3 gL Q) a->I.get y=.none):bS b I v (iH Q):=uV pO ai h (dn.refl _) c (lN gL pO Q)
def Wy(l:List Int)(hl:af l<=400)(c:kY l)(n:Nat)(I:n<=100)(p:Bool):p9 l 13 [aj n,.bool p] λv=>∃s:List dF,af s=n/\(∀x∈s,nT 9 x/\x.lo<x.hi/\CF p x)/\v=iH s:=by
 refine tZ (.f2 .ii .bb) λR O=>bg A8 ?_
 simp only[go_sem,d13,Zv,Zu];refine b8 (KP l n p) n ⟨0,R,.aA,0,[],rfl,cj _,O,?_,?_,?_,?_,?_,?_,?_,.nil,rfl,λ_ h=>by cases h⟩ ?_
 iterate 4 simp only[go_sem]
 .simp only[go_sem];rfl
 .rw[q7]
 .exact aJ 6
 rintro k Y o ⟨j,i,v,g,r,rfl,Z,hi,a,d,f,t,m,b,J,A,G,w⟩;rw[Zs];have ae:¬o.ag=5:=aa;have al:¬5=o.ag:=aa;by_cases H:j<n
 .have q:decide ((j:Int)<(n:Int))=true:=b3 aa;cases p with
  |true=>
   simp only[go_sem,Mf,AG,a,d,m,q];refine jj (US l hl c 3 ai) ai hi b ?_;rintro _ D ⟨z,W,X,rfl⟩ B;unfold bR bk;simp only[go_sem,f];refine Mb l hl c n I true j H v g r G w z ⟨aa,aa⟩ true true (λ_=>⟨rfl,rfl⟩) D B _ _ o.ag J ?_ ?_ ?_ ?_ ?_ ?_ ?_ ?_ ?_ ?_ _ ?_
   .simp only[go_sem];omega
   iterate 6 simp only[go_sem,a,d,f,t,m]
   .simp(disch:=assumption)only[go_sem,ao]
   .refine bn.set ((A.set b _).push _) (cs:=yM++(yM++[aR,aR])) ?_ _;simp only[go_sem];rfl
   .simp(disch:=assumption)only[go_sem];rfl
   .intro K L E C u;exact⟨E,C,u⟩
  |false=>
   simp only[go_sem,Mf,AG,a,d,m,q];refine jj (US l hl c 3 ai) ai hi b ?_;rintro _ D ⟨z,W,X,rfl⟩ B;unfold bR bk;simp only[go_sem,a,f];refine jj (oX l hl c 4 ai) ai B ?_ ?_
   .rw[ah.aT,ay rfl]
   rintro _ S ⟨U,ac,rfl⟩ P;simp only[go_sem,a,f];refine jj (oX l hl c 4 ai) ai P ?_ ?_
   .rw[ah.aT,ay rfl]
   rintro _ T ⟨V,ad,rfl⟩ Q;simp only[go_sem];refine Mb l hl c n I false j H v g r G w z ⟨aa,aa⟩ (decide (0<(U:Int))) (decide (0<(V:Int))) (λh=>nomatch h) T Q _ _ o.ag J ?_ ?_ ?_ ?_ ?_ ?_ ?_ ?_ ?_ ?_ _ ?_
   .simp only[go_sem];omega
   iterate 6 simp only[go_sem,a,d,f,t,m]
   .simp(disch:=assumption)only[go_sem,ao]
   .refine bn.set ((((A.set b _).set (cs:=dN l D) jE _).set (cs:=dN l S) jE _).push _) (cs:=yM++(yM++[aR,aR])) ?_ _;simp only[go_sem];rfl
   .simp(disch:=assumption)only[go_sem];rfl
   .intro K L E C u;exact⟨E,C,u⟩
 .have ab:j=n:=aa;have q:decide ((j:Int)<(n:Int))=false:=bP aa;simp only[go_sem,Zt,d,t,m,q];refine⟨i,_,hi,b,akG A ?_,v_ _,r,aa,w,rfl⟩;intro y N F;rw[ah.mW,ao];intro e;rw[e,b]at F;injection F with _ M
  exact N M.symm
def Cu:au:=[aj 0,.aA]
def ak6(n:Nat)(j:n<=1073741824)(H:ah):dm 226 [.aA,aj n] H λv c=>n=0/\v=.aA/\c=H\/0<n/\v=.slice H.ag 0 0 (.least n)/\c=H.push (an (rep Cu n) 0):=by
 refine bg aoi ?_;have d:decide ((n:Int)<0)=false:=bP aa;have e:AI V.aA=some (.val (aj 0)):=rfl;have hl:di V.aA=some (.val (aj 0)):=rfl;have g:aE .i64 ((0:Int)-0)=0:=rfl;have f:aE .i64 ((n:Int)-0)=(n:Int):=by rw[aK _ aa];omega
 by_cases i:n=0
 .subst i;have a:decide ((0:Int)<((0:Nat):Int))=false:=rfl;simp only[go_sem,d226,NZ,NY,NX,d,e,hl,g,f,a];exact .inl (by refine⟨?_,?_,?_⟩<;>first|trivial|rfl)
 .have a:decide ((0:Int)<(n:Int))=true:=b3 aa;have k:slice3 (kG 2) false true false [.aA,aj 0]=some (.val .aA):=rfl;have h:=VW (bytes:=32) (zs:=Cu) (k:=.i64) (n:=n) ⟨aa,j,ai⟩;have l:=λb=>auo (s:=2) (b:=b) (n:=n) (c:=n) (k:=.i64) (h:=0) ⟨ai,aa⟩
  unfold Cu at h;simp only[go_sem,d226,NZ,NY,NX,d,e,hl,g,f,a,k,h,l];exact .inr (by refine⟨aa,?_,?_⟩<;>first|trivial|rfl)
variable{j:Fr}{x:cq}{s:cm}{l:V}
def DA{bytes:Nat}{v:V}(m:∃d,l=.row 0 d)(k:v=.aA\/∃g n c,v=.slice g 0 n (.least c))(i:s (put j x v) b):gW x s j (fU a bytes [v,l] b):=by
 obtain⟨d,rfl⟩:=m;have h:eu b a 0 (.row 0 d)=some []:=by show cW d (0*a)=_;rw[j4,fB];simp
 have e:fU a bytes [v,.row 0 d] b=some (v,b):=by show aq (some 0) (λn=>aq (eu b a n (.row 0 d)) λf=>ku a bytes v n f b)=_;show aq (eu b a 0 (.row 0 d)) (λf=>ku a bytes v 0 f b)=_;rw[h];rcases k with rfl|⟨g,n,c,rfl⟩<;>rfl
 rw[e];exact i
variable{c:au}
def Qy(h:af c=a*2):eu b 2 a (.row a c)=some c:=by show cW c (a*2)=_;rw[fB,ay aa,dr aa]
def Xc(a c j d:au)(n m N:Nat)(t:N=n+m)(q:af a=n*2)(u:af c=m*2)(O:j.length=n*2)(P:d.length=m*2)(Z:dI a=true)(ab:dI c=true)(ad:n<=1000/\m<=1000)(F:Fr)(H:ah)(R:b5)
 (I:rd 25 F=.row 2 [.row n a,.row m c]) (J:rd 26 F=aj 2) (K:rd 27 F=aj 0) (L:rd 6 F=.slice 5 0 0 (.least N)) (M:H.get 5=an (j++d) 0)
 (Q:∀(r:Fr) (s:ah),rd 6 r=.slice 5 0 N (.least N)->s.get 5=an (a++c) 0->R (.exit 2) r s):bK (.loop (pc 155 7)) R F H:=by
 have U:dO none 1 [.row 2 [.row n a,.row m c],aj 0]=some (.val (.dY [.row n a,.row m c] 0)):=nx ⟨ai,ai⟩;have W:dO none 1 [.row 2 [.row n a,.row m c],aj 1]=some (.val (.dY [.row n a,.row m c] 1)):=nx ⟨ai,ai⟩;have X:dw [V.row n a,.row m c] 0=some (.row n a):=rfl;have Y:dw [V.row n a,.row m c] 1=some (.row m c):=rfl;have C:decide ((0:Int)<2)=true:=rfl;have d12:decide ((1:Int)<2)=true:=rfl;have d22:decide ((2:Int)<2)=false:=rfl;have ac:aE .i64 ((0:Int)+1)=1:=rfl;have v:aE .i64 ((1:Int)+1)=2:=rfl;refine b8 (λk b f=>rd 25 b=.row 2 [.row n a,.row m c]/\rd 26 b=aj 2/\((k=2/\rd 27 b=aj 0/\rd 6 b=.slice 5 0 0 (.least N)/\f.get 5=an (j++d) 0)\/(k=1/\rd 27 b=aj 1/\rd 6 b=.slice 5 0 n (.least N)/\f.get 5=an (a++d) 0)\/(k=0/\rd 27 b=aj 2/\rd 6 b=.slice 5 0 N (.least N)/\f.get 5=an (a++c) 0))) 2 ⟨I,J,.inl ⟨rfl,K,L,M⟩⟩ ?_;rintro k b f ⟨l,g,⟨rfl,e,o,h⟩|⟨rfl,e,o,h⟩|⟨rfl,e,o,h⟩⟩
 .have done:∀(i:Fr) (p:ah),rd 25 i=.row 2 [.row n a,.row m c]->rd 26 i=aj 2->rd 27 i=aj 0->rd 6 i=.slice 5 0 n (.least N)->p.get 5=an (a++d) 0->bK (pc 155 4) (λx F H=>gy (qT (λk b f=>rd 25 b=.row 2 [.row n a,.row m c]/\rd 26 b=aj 2/\((k=2/\rd 27 b=aj 0/\rd 6 b=.slice 5 0 0 (.least N)/\f.get 5=an (j++d) 0)\/(k=1/\rd 27 b=aj 1/\rd 6 b=.slice 5 0 n (.least N)/\f.get 5=an (a++d) 0)\/(k=0/\rd 27 b=aj 2/\rd 6 b=.slice 5 0 N (.least N)/\f.get 5=an (a++c) 0))) 2) R x F H) i p:=by
   intro i p w y z B A;simp only[go_sem,AP,z,ac];refine⟨1,ai,?_,?_,.inr (.inl ⟨rfl,?_,?_,A⟩)⟩
   all_goals simp only[go_sem,w,y,B]
  simp only[go_sem,yZ,yY,De,l,g,e,U,X,C,o];by_cases T:n=0
  .subst T;have ex:a=[]:=pn aa;have D:j=[]:=pn aa;refine DA ⟨_,rfl⟩ (.inr ⟨_,_,_,rfl⟩) ?_;simp only[go_sem];refine done _ _ ?_ ?_ ?_ ?_ (by rw[h,ex,D])
   all_goals simp only[go_sem,l,g,e]
  .refine P3 (xs:=[]) (ys:=j) (rest:=d) (by rw[h];rfl) rfl O rfl (Qy q) q aa ⟨aa,ai⟩ Z ?_ aa;simp only[go_sem];refine done _ _ ?_ ?_ ?_ ?_ (by rw[ah.aT];exact ay rfl)
   all_goals simp only[go_sem,l,g,e]
 .simp only[go_sem,yZ,yY,De,l,g,e,W,Y,d12,o];by_cases S:m=0
  .subst S;have G:c=[]:=pn aa;have E:d=[]:=pn aa;refine DA ⟨_,rfl⟩ (.inr ⟨_,_,_,rfl⟩) ?_;simp only[go_sem,AP,e,v];refine⟨0,ai,?_,?_,.inr (.inr ⟨rfl,?_,?_,by rw[h,G,E]⟩)⟩
   all_goals simp only[go_sem,l,g,t,dG]
  .refine P3 (rest:=[]) (by rw[hU];exact h) q P rfl (Qy u) u aa ⟨aa,ai⟩ ab ?_ aa;simp only[go_sem,AP,e,v];refine⟨0,ai,?_,?_,.inr (.inr ⟨rfl,?_,?_,by rw[ah.aT,ay rfl,hU]⟩)⟩
   all_goals simp only[go_sem,l,g,t]
 .simp only[go_sem,yZ,yY,g,e,d22];refine Q _ _ ?_ h;simp only[go_sem,o]
def auk(a b:au)(n m N:Nat)(I:N=n+m)(J:n<=1000/\m<=1000)(F:Fr)(H:ah)(R:b5)
 (q:rd 0 F=.row 2 [.row n a,.row m b]) (u:rd 9 F=.row 2 [.row n a,.row m b]) (r:rd 10 F=aj 2) (s:rd 11 F=aj 0) (t:rd 3 F=aj 0)
 (v:∀h:Fr,rd 0 h=.row 2 [.row n a,.row m b]->rd 3 h=aj N->R (.exit 0) h H):bK (.loop (pc 155 3)) R F H:=by
 have w:dO none 1 [.row 2 [.row n a,.row m b],aj 0]=some (.val (.dY [.row n a,.row m b] 0)):=nx ⟨ai,ai⟩;have x:dO none 1 [.row 2 [.row n a,.row m b],aj 1]=some (.val (.dY [.row n a,.row m b] 1)):=nx ⟨ai,ai⟩;have A:dw [V.row n a,.row m b] 0=some (.row n a):=rfl;have B:dw [V.row n a,.row m b] 1=some (.row m b):=rfl;have y:di (V.row n a)=some (.val (aj n)):=rfl;have z:di (V.row m b)=some (.val (aj m)):=rfl;have l:decide ((0:Int)<2)=true:=rfl;have d12:decide ((1:Int)<2)=true:=rfl;have d22:decide ((2:Int)<2)=false:=rfl;have C:aE .i64 ((0:Int)+1)=1:=rfl;have D:aE .i64 ((1:Int)+1)=2:=rfl;have E:aE .i64 ((0:Int)+(n:Int))=(n:Int):=by rw[aK _ aa];omega
 have G:aE .i64 ((n:Int)+(m:Int))=(N:Int):=by rw[aK _ aa];omega
 have p:decide ((n:Int)<0)=false:=bP aa;have o:decide ((N:Int)<0)=false:=bP aa;refine b8 (λk c j=>j=H/\rd 0 c=.row 2 [.row n a,.row m b]/\rd 9 c=.row 2 [.row n a,.row m b]/\rd 10 c=aj 2/\((k=2/\rd 11 c=aj 0/\rd 3 c=aj 0)\/(k=1/\rd 11 c=aj 1/\rd 3 c=aj n)\/(k=0/\rd 11 c=aj 2/\rd 3 c=aj N))) 2 ⟨rfl,q,u,r,.inl ⟨rfl,s,t⟩⟩ ?_;rintro k c j ⟨rfl,i,g,d,⟨rfl,e,f⟩|⟨rfl,e,f⟩|⟨rfl,e,f⟩⟩
 .simp only[go_sem,GL,GK,Nm,Nl,f,g,d,e,w,A,y,l,E,p,C];refine⟨1,ai,rfl,?_,?_,?_,.inr (.inl ⟨rfl,?_,?_⟩)⟩
  all_goals simp only[go_sem,i,g,d]
 .simp only[go_sem,GL,GK,Nm,Nl,f,g,d,e,x,B,z,d12,G,o,D];refine⟨0,ai,rfl,?_,?_,?_,.inr (.inr ⟨rfl,?_,?_⟩)⟩
  all_goals simp only[go_sem,i,g,d]
 .simp only[go_sem,GL,GK,d,e,d22];refine v _ ?_ ?_
  all_goals simp only[go_sem,i,f]
def XK(a b:au)(n m:Nat)(B:af a=n*2)(C:af b=m*2)(p:ct a)(q:ct b)(H:dI a=true)(I:dI b=true)(s:n<=1000/\m<=1000):
 bm 155 [.row 2 [.row n a,.row m b]] (.row (n+m) (a++b)):=by
 refine gR (.f1 (.row 2 (.f2 (.row n p) (.row m q)))) (bg anL ?_);obtain⟨N,b_⟩:∃N,N=n+m:=⟨_,rfl⟩;rw[<-b_];have j:di (.row 2 [V.row n a,.row m b])=some (.val (aj 2)):=rfl;simp only[go_sem,d155,aaF,aaE,j];refine auk a b n m N b_ s _ _ _ ?_ ?_ ?_ ?_ ?_ ?_
 iterate 5 simp only[go_sem]
 intro L o v;simp only[go_sem,aaD,v];refine(ak6 N aa _).mono ?_;rintro P M (⟨x,rfl,rfl⟩|⟨x,rfl,rfl⟩)
 .obtain⟨rfl,rfl⟩:n=0/\m=0:=aa;have ex:a=[]:=pn aa;have u:b=[]:=pn aa;subst ex;subst u;have D:dO none 1 [.row 2 [.row 0 [],.row 0 []],aj 0]=some (.val (.dY [.row 0 [],.row 0 []] 0)):=nx ⟨ai,ai⟩;have E:dO none 1 [.row 2 [.row 0 [],.row 0 []],aj 1]=some (.val (.dY [.row 0 [],.row 0 []] 1)):=nx ⟨ai,ai⟩;have F:dw [V.row 0 [],.row 0 []] 0=some (.row 0 []):=rfl;have G:dw [V.row 0 [],.row 0 []] 1=some (.row 0 []):=rfl;have t:decide ((0:Int)<2)=true:=rfl;have d12:decide ((1:Int)<2)=true:=rfl;have d22:decide ((2:Int)<2)=false:=rfl;have J:aE .i64 ((0:Int)+1)=1:=rfl;have K:aE .i64 ((1:Int)+1)=2:=rfl;simp only[go_sem,No,o,j];refine b8 (λk c l=>rd 25 c=.row 2 [.row 0 [],.row 0 []]/\rd 26 c=aj 2/\rd 6 c=.aA/\((k=2/\rd 27 c=aj 0)\/(k=1/\rd 27 c=aj 1)\/(k=0/\rd 27 c=aj 2))) 2 ⟨?_,?_,?_,.inl ⟨rfl,?_⟩⟩ ?_
  iterate 4 simp only[go_sem]
  rintro k c l ⟨h,e,i,⟨rfl,d⟩|⟨rfl,d⟩|⟨rfl,d⟩⟩
  .simp only[go_sem,yZ,yY,De,h,e,d,D,F,t,i];refine DA ⟨_,rfl⟩ (.inl rfl) ?_;simp only[go_sem,AP,d,J];refine⟨1,ai,?_,?_,?_,.inr (.inl ⟨rfl,?_⟩)⟩
   all_goals simp only[go_sem,h,e]
  .simp only[go_sem,yZ,yY,De,h,e,d,E,G,d12,i];refine DA ⟨_,rfl⟩ (.inl rfl) ?_;simp only[go_sem,AP,d,K];refine⟨0,ai,?_,?_,?_,.inr (.inr ⟨rfl,?_⟩)⟩
   all_goals simp only[go_sem,h,e]
  .simp only[go_sem,yZ,yY,Nn,e,d,d22,i];rw[b_];exact⟨_,.gK,.row 0 .nil,rfl⟩
 .have O:af (rep Cu N)=n*2+m*2:=by rw[BQ];show N*2=_;omega
  obtain⟨f,g,r,z⟩:∃f g,rep Cu N=f++g/\f.length=n*2:=⟨_,_,(p6 (n*2) _).symm,jq aa⟩;have A:g.length=m*2:=by have:=congrArg af r;rw[bw]at this;omega
  rw[r];simp only[go_sem,No,o,j];refine Xc a b f g n m N b_ B C z A H I s _ _ _ ?_ ?_ ?_ ?_ ?_ ?_
  iterate 5 simp only[go_sem]
  .intro c l w y;simp only[go_sem,Nn,w];refine⟨_,.row (m:=N*2) (cs:=a++b) ?_ aa m7 (dn.refl _),.row _ (l5 p q),rfl⟩;rw[fO y,dQ,je (by rw[bw];omega)]
def QX{v:V}(h:bn b 1 v c d)(i:af c=a)(f:∀y,d≠0->b.get y=an c d->I.get y=.none):bS b I v (.row a c):=by obtain⟨m,e,g⟩:=h.eA (H2:=I) ai f (dn.refl _);have:m=a:=aa;rw[this]at e;exact e
def MN(f:Nat)(a:au)(n:Nat)(e:0<n/\n<=1000)(hl:af a=n)(b:ct a)(j:f=227\/f=228):bm f [.row n a] (.row n a):=by
 have d:∀t,pI false (.slice t) [.row n a,.aA]=some (.val aR):=by intro t;obtain⟨m,k⟩:∃m,n=m+1:=⟨n-1,aa⟩;rw[k];rfl
 rcases j with rfl|rfl
 .refine gR (.f1 (.row n b)) (bg aoj ?_);simp only[go_sem,d227,acP,acO,d];refine xM (n:=n) (cs:=a) eJ e.1 aa ai ⟨aa,ai⟩ λw g c h i=>?_
  simp only[go_sem];exact⟨_,QX c hl (λ_ _ _=>m7),.row n b,rfl⟩
 .refine gR (.f1 (.row n b)) (bg aok ?_);simp only[go_sem,d228,acR,acQ,d];refine xM (n:=n) (cs:=a) eJ e.1 aa ai ⟨aa,ai⟩ λw g c h i=>?_
  simp only[go_sem];exact⟨_,QX c hl (λ_ _ _=>m7),.row n b,rfl⟩
def Ku{q:Rat}(a:aM 100 q):af (aO q)<=204:=by
 have d:=y5 a.num;have e:=y5 a.den;unfold aO;rw[bw,bw];have b:af (if q.num<0 then [(45:UInt8)]else [])<=1:=by split<;>simp
 have c:af (if q.den=1 then []else(47:UInt8)::dec q.den)<=102:=by
  split
  .simp
  .rw[dZ];omega
 omega
def JN(q:Rat)(a:aM 100 q):cU 163 [.str (aO q)] (.aH [cZ q,cY]):=by have h:=JM (aO q) (by have:=Ku a;omega);rwa[Es (rz q)]at h
structure K3 (n:Nat) (t:b9):Prop where
 q:aM 100 t.1
 nz:t.1.num≠0
 len:t.2.length=n
 sum:t.2.sum<=24
def as8(n:Nat)(E:n<=6)(t:b9)(b:K3 n t):cU 305 [aj n,.agg [.str (aO t.1),bf t.2]] (.aH [pH t,cY]):=by
 have r:=b.len;have o:bA (.aH [pH t,cY]):=.aH (.f2 (Ia t) .bb);refine dg (.f2 .ii (.agg (.f2 .ss (n6 _)))) (bg aoR ?_);have p:GT (dV.push (an [.str (aO t.1),bf t.2] 0)):=e5.push ai _;have e:GT ((dV.push (an [.str (aO t.1),bf t.2] 0)).push (an [aj 0,aj 0,aj 0,aj 0,aj 0,aj 0,aR,.aA,aR,.aA] 0)):=p.push (by show 5<=6;decide) _;simp only[go_sem,d305,aeW];refine bq (JN t.1 b.q) e ?_;have f:bM (cZ t.1)=true:=rfl;have g:cellsOf (cZ t.1)=cc t.1:=rfl;have bX:c_ (cc t.1)=4:=rfl;have h:dI (cc t.1)=true:=rfl;have w:dj (cc t.1) [aR,.aA,aR,.aA] 0=some (cc t.1):=rfl;have i:cW (cc t.1) 4=some (cc t.1):=rfl;have eB:V.agg (cc t.1)=cZ t.1:=rfl;simp only[go_sem,f,g,bX,h,w];simp only[go_sem,ae3,i,eB];refine use (D3 t.1) ?_;have v:decide (t.1.num=0)=false:=bP b.nz;have F:((t.2.length:Nat):Int)=(n:Int):=by rw[r]
 simp(disch:=assumption)only[go_sem,ae2,v,dt];refine ajP t.2 (λx u=>by have:=apT u;have:=b.sum;omega) aa _ _ _ ?_ ?_ ?_ ?_
 iterate 3 simp only[go_sem]
 intro c a;have j:rd 3 c=.ptr 5 0:=by rw[a 3 ai];simp only[go_sem]
 have k:rd 4 c=.ptr 6 0:=by rw[a 4 ai];simp only[go_sem]
 have l:rd 6 c=.ptr 7 0:=by rw[a 6 ai];simp only[go_sem]
 clear a;have lH:dj (cc t.1) [aj 0,aj 0,aj 0,aj 0,aj 0,aj 0,aR,.aA,aR,.aA] 6=some ([aj 0,aj 0,aj 0,aj 0,aj 0,aj 0]++cc t.1):=rfl;have s:slice3 (ou 6 1) false false false [.ptr 8 0]=some (.val (.slice 8 0 6 (.known 6))):=rfl;rw[gb];simp only[go_sem,ae1,ae0,aeZ,j,l,f,g,bX,h,i,eB,lH,s];refine ajp (b:=8) (cs:=[aj 0,aj 0,aj 0,aj 0,aj 0,aj 0]++cc t.1) eJ aI aa ?_;have m:bL t.2++(([V.int .i64 0,aj 0,aj 0,aj 0,aj 0,aj 0]:au)++cc t.1).drop t.2.length=b7 t:=by unfold b7 en;rw[gX];congr 1;rw[show([V.int .i64 0,aj 0,aj 0,aj 0,aj 0,aj 0]:au)=aZ 6 (aj 0)from rfl,List.drop_append_of_le_length e7,xb]
 rw[m];have d:=nv (t:=t) aa;have y:cW (b7 t) 10=some (b7 t):=je d;have z:V.agg (b7 t)=pH t:=rfl;have A:bM (pH t)=true:=rfl;have B:cellsOf (pH t)=b7 t:=rfl;have C:c_ (b7 t)=10:=by rw[iw,d]
 have D:dj (b7 t) [aj 0,aj 0,aj 0,aj 0,aj 0,aj 0,aR,.aA,aR,.aA] 0=some (b7 t):=x4 d;simp only[go_sem,aeY,k,y,z,A,B,C,D,uM];refine bO ?_ rfl o
 repeat' first|exact e|exact Nat.le_add_left 5 _|exact ai|refine GT.set ?_ ?_ _|refine GT.push ?_ ?_ _
def gO:aF->au
 |[]=>[]
 |t::l=>b7 t++gO l
def AX(l:aF):V:=.row (af l) (gO l)
def DC:∀(l m:aF),gO (l++m)=gO l++gO m
 |[],_=>rfl
 |t::l,m=>by simp[gO,DC l m]
def Qk:∀l,ct (gO l)
 |[]=>.nil
 |t::l=>l5 (Qi t) (Qk l)
def Qj(l:aF):bA (AX l):=.row _ (Qk l)
def HZ:∀l:aF,(∀t∈l,t.2.length<=6)->af (gO l)=af l*10
 |[],_=>rfl
 |t::l,h=>by rw[gO,bw,nv (h t aI),HZ l λu a=>h u (by simp[a]),dZ];omega
variable{f:Type}
def EH(a:List f)(n:Nat):af (rep a n)=n*af a:=by
 induction n with
 |zero=>rw[j4];rfl
 |succ n b=>show af (dJ a (rep a n))=_;rw[iW,bw,b,fT];omega
def UY(l:aF)(i:Nat):(lQ l).drop (i*2)=lQ (l.drop i):=by
 induction l generalizing i with
 |nil=>simp[lQ]
 |cons t l a=>
  cases i with
  |zero=>simp
  |succ i=>rw[List.drop_succ_cons,<-a,(aa:(i+1)*2=i*2+1+1)];rfl
variable{k:aF}{N:b9}
def Fy(h:k[a]? =some N):cW (eH (lQ k) (a*2)) 2=some (vD N):=by rw[l8,UY,drop_cons h,fB];rfl
def UZ(h:k[a]? =some N):dw (lQ k) (a*2+1)=some (bf N.2):=by rw[iu,<-yD,UY,drop_cons h];rfl
@[go_sem]theorem az8(l:aF):di (fq l)=some (.val (aj (af l))):=rfl
def zn{l:aF}{i:Int}{k:IntKind}(h:0<=i/\i<af l):dO none 2 [fq l,.int k i]=some (.val (.dY (lQ l) (i.toNat*2))):=nx h
variable{p:IntKind}
def So{bytes n:Nat}{l:IntKind}(h:n*bytes<=1099511627776/\n<=1099511627776):l_ bytes c [.int p 0,.int l (n:Int)]=some (.new (rep c n) (.slice 0 n)):=by show aX (and (b6 0 n) (b6 (fz n bytes) 1099511627776)) (aX (b6 n 1099511627776) (some (bh.new (rep c n) (.slice 0 n))))=_;rw[lD (cj n),lD (show fz n bytes<=_ from h.1),lD h.2];rfl
def HX{bytes b n:Nat}{L new:au}(i:I.get b=an L 0)(q:L.length=n*a)(hl:af new=a)(hi:d<n)(l:n<=1073741824/\bytes<=1024)(o:dI new=true)(k:b≠I.ag)
 (m:s (put j x (.slice b 0 (d+1) (.known n))) ((I.push (an new 0)).set b (an (L.take (d*a)++new++L.drop (d*a+a)) 0))):
 gW x s j (fU a bytes [.slice b 0 d (.known n),.slice I.ag 0 1 (.known 1)] (I.push (an new 0))):=by
 have f:(I.push (an new 0)).dz I.ag 0 (1*a)=some new:=by rw[fO (cs:=new) (by rw[ah.bl,ay rfl]),dQ,kn,je hl]
 have r:d*a+a<=n*a:=by rw[<-qR];exact ei a hi
 have g:dj new L (0+d*a)=some (L.take (d*a)++new++L.drop (d*a+a)):=by rw[mH,eW,ay aa,hl]
 have h:(I.push (an new 0)).fe b (0+d*a) new=some ((I.push (an new 0)).set b (an (L.take (d*a)++new++L.drop (d*a+a)) 0)):=by unfold ah.fe;rw[ah.bl,ao (Ne.symm k),i];show aX (dI new) (aq (dj new L (0+d*a)) λc=>some ((I.push (an new 0)).set b (an c 0)))=_;rw[o,g];rfl
 have e:fU a bytes [.slice b 0 d (.known n),.slice I.ag 0 1 (.known 1)] (I.push (an new 0))=some (.slice b 0 (d+1) (.known n),(I.push (an new 0)).set b (an (L.take (d*a)++new++L.drop (d*a+a)) 0)):=by show aq ((I.push (an new 0)).dz I.ag 0 (1*a)) (λp=>ku a bytes (.slice b 0 d (.known n)) 1 p (I.push (an new 0)))=_;rw[f];show aX (jx (d+1) bytes) (Bool.casesOn (motive:=λ_=>Option (V×ah)) (b6 (d+1) n) _ (aq ((I.push (an new 0)).fe b (0+d*a) new) λI=>some (V.slice b 0 (d+1) (.known n),I)))=_;rw[q5 ⟨aa,c5 (iP (aa:d+1<=1073741824) l.2) ai⟩,lD (show d+1<=n from hi),h];rfl
 rw[e];exact m
structure mC (n:Nat) (p:List b9):Prop where
 t:∀t∈p,K3 n t
 ord:p.Pairwise λa b=>ord a.2 b.2=1
 len:af p<=4096
def asH(h:k.Pairwise λa b=>ord a.2 b.2=1){t:b9}(f:k[d]? =some N)(g:k[d+1]? =some t):ord N.2 t.2=1:=by obtain⟨c,rfl⟩:=jo.1 f;obtain⟨e,rfl⟩:=jo.1 g;exact List.pairwise_iff_getElem.1 h d (d+1) c e (nO d)
def Vj(n:Nat)(p:aF)(k:Nat)(F:Fr)(H:ah):Prop:=∃(i:Nat) (L:au),k=af p-i/\i<=af p/\rd 1 F=.ptr 5 0/\rd 4 F=.slice 6 0 i (.known (af p))/\rd 22 F=fq p/\rd 23 F=aj (af p)/\rd 24 F=aj i/\
 H.get 5=an (ee n p) 0/\H.get 6=an L 0/\L.length=af p*10/\L.take (i*10)=gO (p.take i)/\GT H/\7<=H.ag
variable{Y:Cap}
def akB(h:b.get a=an (gO k) 0)(e:I.get a=.none)(g:af k=d)(hl:∀t∈k,t.2.length<=6):bS b I (.slice a 0 d Y) (AX k):=by
 subst g;cases c:k with
 |nil=>exact .fQ a 0 Y
 |cons i m=>
  rw[<-c];have f:=HZ k hl;refine .row (m:=af (gO k)) (cs:=gO k) ?_ ?_ e (dn.refl _)
  .rw[fO h,dQ,je rfl]
  .rw[f,c,dZ];omega
def awu(n:Nat)(G:n<=6)(p:aF)(d:mC n p):cU 245 [gV n p] (.aH [AX p,cY]):=by
 have ad:=d.len;have R:∀a∈p,a.2.length<=6:=λa c=>by rw[(d.t a c).len];exact G
 refine dg (.f1 (.agg (.f2 .ii (tE _)))) (bg aov ?_);have d1:¬((n:Nat):Int)<0:=aa;have d2:¬((6:Int)<((n:Nat):Int)):=aa;simp(disch:=first|assumption|omega)only[d245,ado,adn,adm,gV,ee,go_sem,↓reduceIte,mz,df,So]
 refine b8 (Vj n p) (af p) ⟨0,rep [aj 0,aj 0,aj 0,aj 0,aj 0,aj 0,aR,.aA,aR,.aA] (af p),rfl,cj _,?_,?_,?_,?_,?_,?_,?_,?_,?_,?_,?_⟩ ?_
 iterate 4 simp only[go_sem]
 .simp only[go_sem];rfl
 .simp only[go_sem];rfl
 .simp only[go_sem]
 .rw[EH];rfl
 .simp[gO]
 .exact(e5.push ai _).push (by show 5<=6;decide) _
 .show 7<=7;decide
 rintro k F H ⟨i,L,rfl,hi,e,u,r,f,g,h,v,E,l,m,ae⟩;rw[adk];by_cases U:i<af p
 .obtain⟨a,c⟩:∃a,p[i]? =some a:=⟨p[i],c4 U⟩;have X:=fL c;have o:=d.t a X;have O:=Fy c;have b:=nv (t:=a) (by have:=o.len;omega);have I:cW (b7 a) 10=some (b7 a):=je b;have J:V.agg (b7 a)=pH a:=rfl;have z:bM (pH a)=true:=rfl;have A:cellsOf (pH a)=b7 a:=rfl;have B:c_ (b7 a)=10:=by rw[iw,b]
  have C:dj (b7 a) [aj 0,aj 0,aj 0,aj 0,aj 0,aj 0,aR,.aA,aR,.aA] 0=some (b7 a):=x4 b;have q:¬H.ag=5:=aa;have M:¬H.ag=6:=aa;have D:¬H.ag+1=5:=aa;have N:¬H.ag+1=6:=aa;have Z:¬H.ag+1=H.ag:=aa;have K:¬H.ag=3:=aa;have al:¬H.ag=4:=aa;have S:GT ((H.push (an [.str [],.aA] 0)).set H.ag (an (vD a) 0)):=(m.push aa _).set aa _;simp(disch:=omega)only[go_sem,Oa,adj,e,r,f,g,dt,zn,cg,O,h,vD];simp(disch:=omega)only[go_sem,q,ee];refine bq (as8 n G a o) S ?_;simp(disch:=omega)only[go_sem,z,A,B,C,uM];obtain rfl|⟨j,rfl⟩:i=0\/∃j,i=j+1:=by
   cases i with
   |zero=>exact .inl rfl
   |succ j=>exact .inr ⟨j,rfl⟩
  .have am:¬((0:Nat):Int)>0:=aa;simp(disch:=omega)only[go_sem,u,I,J,z,A,B,C,df];refine HX (L:=L) ?_ E b aa ⟨aa,ai⟩ (uM a) (by show 6≠H.ag+1+1;omega) ?_
   .simp(disch:=omega)only[go_sem,v,M,N]
   simp(disch:=omega)only[go_sem,N_,g,aK];refine⟨af p-(0+1),aa,0+1,L.take (0*10)++b7 a++L.drop (0*10+10),rfl,aa,?_,?_,?_,?_,?_,?_,?_,?_,?_,?_,?_⟩
   iterate 4 simp only[go_sem,e,r,f]
   .simp only[go_sem];rfl
   .simp(disch:=omega)only[go_sem,h,q,D,K,ee]
   .simp(disch:=omega)only[go_sem]
   .simp only[bw,e8,lB,b];omega
   .rw[Fc c,DC,<-l];have w:af (L.take (0*10)++b7 a)=(0+1)*10:=by rw[bw,e8,b];omega
    rw[<-w,vL];simp[gO]
   .repeat' first|exact m|omega|(simp only[go_sem];omega)|refine GT.set ?_ ?_ _|refine GT.push ?_ ?_ _
   .show 7<=H.ag+1+1+1;omega
  .obtain⟨s,x⟩:∃s,p[j]? =some s:=⟨p[j],c4 aa⟩;have y:=d.t s (fL x);have P:=UZ x;have W:=asH d.ord x c;have Q:((j+1:Nat):Int)-1=(j:Int):=aa;simp(disch:=omega)only[go_sem,e,h,q,D,Z,ee,dt,zn,cg,aK,Q,P];refine use (S0 s.2 a.2 (by rw[y.len,o.len]) (by rw[y.len];omega) (by have:=y.sum;omega) (by have:=o.sum;omega)) ?_;simp(disch:=omega)only[go_sem,u,I,J,z,A,B,C,dt,W];refine HX (L:=L) ?_ E b aa ⟨aa,ai⟩ (uM a) (by show 6≠H.ag+1+1;omega) ?_
   .simp(disch:=omega)only[go_sem,v,M,N]
   simp(disch:=omega)only[go_sem,N_,g,aK];refine⟨af p-((j+1)+1),aa,(j+1)+1,L.take ((j+1)*10)++b7 a++L.drop ((j+1)*10+10),rfl,aa,?_,?_,?_,?_,?_,?_,?_,?_,?_,?_,?_⟩
   iterate 4 simp only[go_sem,e,r,f]
   .simp only[go_sem];rfl
   .simp(disch:=omega)only[go_sem,h,q,D,K,ee]
   .simp(disch:=omega)only[go_sem]
   .simp only[bw,e8,lB,b];omega
   .rw[Fc c,DC,<-l];have w:af (L.take ((j+1)*10)++b7 a)=((j+1)+1)*10:=by rw[bw,e8,b];omega
    rw[<-w,vL];simp[gO]
   .repeat' first|exact m|omega|(simp only[go_sem];omega)|refine GT.set ?_ ?_ _|refine GT.push ?_ ?_ _
   .show 7<=H.ag+1+1+1;omega
 .have T:i=af p:=aa;subst T;simp(disch:=omega)only[go_sem,Oa,adl,u,f,g,df];rw[dr aa,dr (aJ _)]at l;subst l;have Y:(dV.nW H.ag).get 6=.none:=by rw[ah.sq,lF];rfl
  exact⟨m,_,.aH (.f2 (akB v Y rfl R) .mm),.aH (.f2 (Qj p) .bb),rfl⟩
def awk:ec 5 ef 113 [fl 1] cY=true:=ep
def awl:ec 5 ef 113 [fl 2] cY=true:=ep
def UI(n:Nat)(a:n=1\/n=2):bm 113 [fl n] cY:=by
 rcases a with rfl|rfl
 .exact eo eg awk
 .exact eo eg awl
def as6(n:Nat)(f:n<=6)(p:aF)(d:mC n p):cU 181 [gV n p] (.aH [AX p,cY]):=by
 have j:=d.len;refine dg (.f1 (.agg (.f2 .ii (tE _)))) (bg an5 ?_);have c:GT (dV.push (an (ee n p) 0)):=e5.push ai _;have e:bA (.aH [AX p,cY]):=.aH (.f2 (Qj p) .bb);simp(disch:=first|assumption|omega)only[d181,abz,aby,gV,ee,go_sem,↓reduceIte,mz,df]
 refine bq (awu n f p d) c ?_;cases a:p with
 |nil=>subst a;have l:¬((0:Nat):Int)>0:=aa;simp(disch:=omega)only[go_sem,NH,NG,df,p5];exact bO c rfl e
 |cons b m=>
  rw[<-a];have g:p[0]? =some b:=by rw[a];rfl
  have h:=d.t b (fL g);have i:dw (lQ p) (Int.toNat 0*2+1)=some (bf b.2):=UZ g;have k:0<af p:=by rw[a];exact mA _
  simp(disch:=omega)only[go_sem,NH,NG,dt,zn,i];refine use (I0 b.2 (by rw[h.len];exact f) h.sum) ?_;simp(disch:=omega)only[go_sem];exact bO c rfl e
def zN(n:Nat)(b:n<=6)(p:aF)(c:mC n p):cU 115 [gV n p] cY:=by
 refine dg (.f1 (.agg (.f2 .ii (tE _)))) (bg anv ?_);have a:GT (dV.push (an (ee n p) 0)):=e5.push ai _;simp(disch:=first|assumption|omega)only[d115,YP,YO,gV,ee,go_sem,↓reduceIte,mz]
 refine bq (as6 n b p c) a ?_;simp(disch:=first|assumption|omega)only[go_sem,↓reduceIte,mz]
 exact bO a rfl (.bool _)
def vU(p:fM):au:=[fl p.n,aj p.n,fq p.obj,dc p.n p.is,dc p.n p.es]
def Jg(p:fM)(k:p.n=1\/p.n=2)(q:aF)(h:mC p.n q)(H:ah)(b:Nat)(i:5<=b)(j:b<H.ag)(c:H.get b=an (vU p) 0)(d:GT H):
 dm 114 [gV p.n q,.ptr b 0] H λv a=>v=cY/\a=H.push (an (ee p.n q) 0):=by
 refine bg anu ?_;have e:GT (H.push (an (ee p.n q) 0)):=d.push aa _;have f:¬H.ag=b:=aa;have g:di (fl p.n)=some (.val (aj p.n)):=rfl;simp(disch:=first|assumption|omega)only[d114,YN,gV,ee,go_sem,↓reduceIte,mz]
 refine bq (zN p.n aa q h) e ?_;simp(disch:=first|assumption|omega)only[go_sem,↓reduceIte,mz,c,vU,f,g]
 exact⟨aI,trivial⟩
def sD(c:a=1\/a=2)(e:d<=3)(h:uw a d k):mC a k:=⟨λt b=>⟨(h.2.1 t b).2.mono aa,h.1.2 t b,(tP c t.2 (h.2.1 t b).1).1,by have:=(tP c t.2 (h.2.1 t b).1).2;omega⟩,h.1.1,by have:=h.2.2.1;omega⟩
def awG(n:Nat)(l:List aF)(i:Nat):(gA n l).drop (i*2)=gA n (l.drop i):=by
 induction l generalizing i with
 |nil=>simp[gA]
 |cons t l a=>
  cases i with
  |zero=>simp
  |succ i=>rw[List.drop_succ_cons,<-a,(aa:(i+1)*2=i*2+1+1)];rfl
def w5{n:Nat}{l:List aF}(h:l[a]? =some k):cW (eH (gA n l) (a*2)) 2=some (ee n k):=by obtain⟨b,rfl⟩:=jo.1 h;rw[l8,awG,mQ b,fB];rfl
@[go_sem]theorem az7(n:Nat)(l:List aF):di (dc n l)=some (.val (aj (af l))):=rfl
variable{q:Int}
def wm{l:List aF}(h:0<=q/\q<af l):dO none 2 [dc a l,.int p q]=some (.val (.dY (gA a l) (q.toNat*2))):=nx h
@[go_sem]theorem azM(l:aF):bM (fq l)=true:=rfl
@[go_sem]theorem ay4(l:aF):cellsOf (fq l)=[fq l]:=rfl
@[go_sem]theorem aAB(l:aF):V.one (fq l)=true:=rfl
def K4(p:fM)(l:List aF)(a b c:Nat)(k:Nat)(F:Fr)(H:ah):Prop:=∃i:Nat,k=af l-i/\i<=af l/\rd 1 F=.ptr 5 0/\rd 3 F=.func 114 [] [.ptr 5 0]/\rd a F=dc p.n l/\rd b F=aj (af l)/\rd c F=aj i/\
 H.get 5=an (vU p) 0/\GT H/\6<=H.ag
def UD(p:fM)(h:p.aG):cU 60 [hC p] cY:=by
 have e:=h.n;have I:=h.li;have G:=h.le;have E:=sD e ai h.obj;refine dg (.f1 (q2 _ e)) (bg apm ?_);simp(disch:=first|assumption|omega)only[d60,ahF,ahE,ahD,hC,go_sem,↓reduceIte,mz]
 have D:zE 114 0 [.ptr 5 0]=some (.val (.func 114 [] [.ptr 5 0])):=rfl;have w:∀x:V,oL [.func 114 [] [.ptr 5 0],x]=some (.fn 114,[x,.ptr 5 0]):=λ_=>rfl
 refine use (UI p.n e) ?_;simp(disch:=first|assumption|omega)only[go_sem,↓reduceIte,mz,df,D]
 refine b8 (K4 p p.is 26 27 28) p.is.length ⟨0,rfl,cj _,?_,?_,?_,?_,?_,?_,?_,?_⟩ ?_
 iterate 4 simp only[go_sem]
 .simp only[go_sem];rfl
 .simp only[go_sem];rfl
 .exact e5.push ai _
 .show 6<=6;decide
 rintro k F H ⟨i,rfl,hi,f,d,j,b,c,a,g,y⟩;rw[ahG];have l:¬H.ag=5:=aa;by_cases t:i<p.is.length
 .obtain⟨q,r⟩:∃q,p.is[i]? =some q:=⟨p.is[i],c4 t⟩;have A:=sD e ai (h.is q (fL r));have u:=w5 (n:=p.n) r;have J:¬H.ag=3:=aa;have z:¬H.ag=4:=aa;have o:GT ((H.push (an [aj 0,.aA] 0)).set H.ag (an (ee p.n q) 0)):=(g.push aa _).set aa _;simp(disch:=omega)only[go_sem,Pc,ahC,d,j,b,c,dt,wm,cg,u,ee,w];refine(Jg p e q A _ 5 ai (by show 5<H.ag+1;omega) (by simp(disch:=omega)only[go_sem,l,a]) o).mono λv B ⟨s,m⟩=>?_
  subst s m;simp(disch:=omega)only[go_sem,ahB,c,aK];refine⟨p.is.length-(i+1),aa,i+1,rfl,aa,?_,?_,?_,?_,?_,?_,?_,?_⟩
  iterate 4 simp only[go_sem,f,d,j,b]
  .simp only[go_sem];rfl
  .simp(disch:=omega)only[go_sem,a,l,z]
  .exact o.push (by show 5<=H.ag+1;omega) _
  .show 6<=H.ag+1+1;omega
 .simp(disch:=omega)only[go_sem,Pc,ahL,f,b,c,a,vU,df];refine b8 (K4 p p.es 38 39 40) p.es.length ⟨0,rfl,cj _,?_,?_,?_,?_,?_,?_,?_,?_⟩ ?_
  iterate 4 simp only[go_sem,f,d]
  .simp only[go_sem];rfl
  .exact a
  .exact g
  .exact y
  clear t f d j b c a g y l hi i;rintro k F H ⟨i,rfl,hi,f,d,j,b,c,a,g,y⟩;rw[ahJ];have l:¬H.ag=5:=aa;by_cases t:i<p.es.length
  .obtain⟨q,r⟩:∃q,p.es[i]? =some q:=⟨p.es[i],c4 t⟩;have A:=sD e ai (h.es q (fL r));have u:=w5 (n:=p.n) r;have z:¬H.ag=4:=aa;have o:GT ((H.push (an [aj 0,.aA] 0)).set H.ag (an (ee p.n q) 0)):=(g.push aa _).set aa _;simp(disch:=omega)only[go_sem,Pd,ahI,d,j,b,c,dt,wm,cg,u,ee,w];refine(Jg p e q A _ 5 ai (by show 5<H.ag+1;omega) (by simp(disch:=omega)only[go_sem,l,a]) o).mono λv B ⟨s,m⟩=>?_
   subst s m;simp(disch:=omega)only[go_sem,ahH,c,aK];refine⟨p.es.length-(i+1),aa,i+1,rfl,aa,?_,?_,?_,?_,?_,?_,?_,?_⟩
   iterate 4 simp only[go_sem,f,d,j,b]
   .simp only[go_sem];rfl
   .simp(disch:=omega)only[go_sem,a,l,z]
   .exact o.push (by show 5<=H.ag+1;omega) _
   .show 6<=H.ag+1+1;omega
  .have C:cW (eH (vU p) 1) 2=some (ee p.n p.obj):=rfl;simp(disch:=omega)only[go_sem,Pd,ahK,f,d,b,c,a,df,C,w];refine(Jg p e p.obj E H 5 ai aa a g).mono λv B ⟨s,m⟩=>?_
   subst s m;simp(disch:=omega)only[go_sem];exact bO (g.push aa _) rfl (.bool _)
def Xs(e:av)(h:0<af e/\af e<=1000):bm 228 [bf e] (bf e):=MN 228 (bL e) (af e) h (jz e) (Ib e) (.inr rfl)
def we(n:Nat)(p:aF):bA (gV n p):=.agg (.f2 .ii (tE _))
def XT(n:Nat)(p:aF)(Z:0<n/\n<=6)(I:∀t∈p,t.2.length=n)(hl:af p<=4096):bm 158 [gV n p] (gV n p):=by
 refine gR (.f1 (we n p)) (bg anO ?_);simp only[go_sem,d158,aaZ,aaY,gV,ee];refine b8 (λm b a=>∃(i:Nat) (v:V) (g:Nat),m=af p-i/\i<=af p/\rd 2 b=.ptr 6 0/\rd 3 b=.ptr 7 0/\rd 10 b=fq p/\rd 11 b=aj (af p)/\rd 12 b=aj i/\a.get 6=an [aj 0,.aA] 0/\a.get 7=an [aj n,v] 0/\8<=a.ag/\bn a 2 v (lQ (p.take i)) g) (af p) ⟨0,.aA,0,rfl,cj _,?_,?_,?_,?_,?_,?_,?_,?_,.nil⟩ ?_
 iterate 4 simp only[go_sem]
 .simp only[go_sem];rfl
 iterate 2 simp only[go_sem]
 .exact aJ 8
 rintro m b a ⟨i,v,g,rfl,hi,A,f,z,o,q,j,bp,ab,l⟩;rw[aaW];obtain⟨ae,al,O⟩:=l.bM;by_cases M:i<af p
 .obtain⟨t,u⟩:∃t,p[i]? =some t:=⟨p[i],c4 M⟩;have ac:=I t (fL u);have x:=Fy u;have r:decide ((i:Int)<((af p:Nat):Int))=true:=b3 aa;have X:aE .i64 ((i:Int)+1)=((i+1:Nat):Int):=by rw[aK _ aa];rfl
  have N:=KJ (p.take i);rw[e8,p7 hi]at N;have H:=Xs t.2 aa;have S:dI [V.str (aO t.1),bf t.2]=true:=rfl;have C:¬a.ag=7:=aa;simp only[vD]at x;simp(disch:=omega)only[go_sem,Nr,aaV,f,z,o,q,r,zn,cg,x,C,bp];refine use H ?_;simp only[go_sem,C,bp,true_and];have d:∀y,y<a.ag->((a.push (an [.str [],.aA] 0)).set a.ag (an [.str (aO t.1),bf t.2] 0)).get y=a.get y:=λy hy=>by rw[ah.aT,ao aa,ah.bl,ao aa]
  have s:=l.low d ff;refine kM (bytes:=40) s rfl ai S ⟨aa,ai⟩ λW Y F D am w T=>?_
  simp only[kQ,I6]at w T;have U:=(w 6 aa (s.ne (cs:=[aj 0,.aA]) (k:=0) (by rw[d 6 aa,j]))).trans (by rw[d 6 aa,j]);have E:=(w 7 aa (s.ne (cs:=[aj n,v]) (k:=0) (by rw[d 7 aa,bp]))).trans (by rw[d 7 aa,bp]);obtain⟨P,Q,R⟩:=D.bM;simp only[go_sem,aaU,f,E,P,Q,R,q,X];refine⟨af p-(i+1),aa,i+1,W,F,rfl,aa,?_,?_,?_,?_,?_,?_,?_,?_,?_⟩
  iterate 7 simp only[go_sem,A,f,z,o,U]
  .simp only[go_sem];omega
  .refine bn.set ?_ E _;obtain⟨K,e⟩:=jo.1 u;rw[lT K,e,Fx];simpa [lQ,vD]using D
 .have L:i=af p:=aa;subst L;have r:decide (((af p:Nat):Int)<((af p:Nat):Int))=false:=bP aa;rw[dr (aJ _)]at l;simp only[go_sem,Nr,aaX,A,f,o,q,r,j,bp,O];have J:∀c:ah,bn c 2 v (lQ p) g->bS c (ah.zero c.ag) v (fq p):=λc h=>by obtain⟨k,B,G⟩:=h.eA (H2:=ah.zero c.ag) ai (λ_ _ _=>m7) (dn.refl _);rw[KJ]at G;have:k=af p:=aa;rw[this]at B;exact B
  exact⟨_,.agg (.f2 .mm (J _ (l.set j _))),we n p,rfl⟩
def GF(n:Nat)(p:aF)(b:0<n/\n<=6)(a:∀t∈p,t.2.length=n)(hl:af p<=4096):bm 157 [gV n p] (.aH [gV n p,aj 0]):=by refine dM (.f1 (we n p)) (.aH (.f2 (we n p) .ii)) (bg anN ?_);have h:=XT n p b a hl;unfold gV ee at h;simp only[go_sem,d157,aaT,gV,ee];refine use h ?_;simp only[go_sem]
def jb(n:Nat)(o:aF)(b a:List aF):au:=[fl n,aj n,fq o,dc n b,dc n a]
def nq(n:Nat)(o:aF)(b a:List aF):V:=.agg (jb n o b a)
def xP(n:Nat)(b:n=1\/n=2)(o:aF)(c a:List aF):bA (nq n o c a):=.agg (.f5 (Ic _ b) .ii (tE _) (ze _ _) (ze _ _))
def vR(n:Nat)(q:aF):Prop:=(∀t∈q,t.2.length=n)/\af q<=4096
@[go_sem]theorem ay7(x:V):oL [.func 157 [] [],x]=some (.fn 157,[x]):=rfl
def avD(n:Nat)(hn:n=1\/n=2)(o:aF)(a es:List aF)(hi:∀q∈a,vR n q)(li:af a<=1000)(F:Fr)(H:ah)(R:b5)
 (N:rd 1 F=.func 157 [] []) (S:rd 6 F=.ptr 7 0) (O:rd 35 F=dc n a) (P:rd 36 F=aj (af a)) (Q:rd 37 F=aj 0) (bp:H.get 7=an [fl n,aj n,fq o,.aA,.aA] 0) (ad:8<=H.ag)
 (U:∀C j v g,(∀t,t<10->rd t C=rd t F)->(∀y c,y<7->H.get y=an c 0->j.get y=an c 0)->j.get 7=an [fl n,aj n,fq o,v,.aA] 0->bn j 2 v (gA n a) g->8<=j.ag->R (.exit 0) C j):bK (.loop (pc 156 3)) R F H:=by
 refine b8 (λm d b=>∃(i:Nat) (v:V) (g:Nat),m=af a-i/\i<=af a/\(∀t,t<10->rd t d=rd t F)/\rd 35 d=dc n a/\rd 36 d=aj (af a)/\rd 37 d=aj i/\(∀y c,y<7->H.get y=an c 0->b.get y=an c 0)/\b.get 7=an [fl n,aj n,fq o,v,.aA] 0/\8<=b.ag/\bn b 2 v (gA n (a.take i)) g) (af a) ⟨0,.aA,0,rfl,cj _,λ_ _=>rfl,O,P,Q,λ_ _ _ h=>h,bp,ad,.nil⟩ ?_;rintro m d b ⟨i,v,g,rfl,Z,l,D,s,u,hl,eB,ae,k⟩;have M:rd 1 d=.func 157 [] []:=by rw[l 1 ai];exact N
 have E:rd 6 d=.ptr 7 0:=by rw[l 6 ai];exact S
 rw[aaN];obtain⟨a8,a9,a'⟩:=k.bM;by_cases Y:i<af a
 .obtain⟨q,z⟩:∃q,a[i]? =some q:=⟨a[i],c4 Y⟩;obtain⟨al,am⟩:=hi q (fL z);have G:=w5 (n:=n) z;have w:decide ((i:Int)<((af a:Nat):Int))=true:=b3 aa;have w1:aE .i64 ((i:Int)+1)=((i+1:Nat):Int):=by rw[aK _ aa];rfl
  have ap:=uh n (a.take i);rw[e8,p7 Z]at ap;have f:=GF n q aa al am;have a1:dI [V.int .i64 (n:Int),fq q]=true:=rfl;have ac:¬b.ag=7:=aa;have ab:¬b.ag+1=7:=aa;unfold gV ee at f;simp only[ee]at G;simp(disch:=omega)only[go_sem,Np,aaH,M,D,s,u,w,wm,cg,G];refine use f ?_;simp only[go_sem,decide_true,jQ,E,ac,ab,eB];have p:∀y,y<b.ag->((((b.push (an [aj 0,.aA] 0)).set b.ag (an [aj n,fq q] 0)).push (an [aj 0,.aA] 0)).set (b.ag+1) (an [aj n,fq q] 0)).get y=b.get y:=λy r=>by rw[ah.aT,ao aa,ah.bl,ao ff,ah.aT,ao aa,ah.bl,ao aa]
  have x:=k.low p ff;refine kM (bytes:=32) x rfl ai a1 ⟨aa,ai⟩ λv2 L T J bb B a2=>?_
  simp only[kQ,I6]at B a2;have K:=(B 7 aa (x.ne (cs:=[fl n,aj n,fq o,v,.aA]) (k:=0) (by rw[p 7 aa,eB]))).trans (by rw[p 7 aa,eB]);have a3:∀y c,y<7->H.get y=an c 0->L.get y=an c 0:=λy c r f=>by have I:=(p y aa).trans (hl y c r f);exact(B y aa (x.ne I)).trans I
  obtain⟨ar,aw,a0⟩:=J.bM;simp only[go_sem,aaG,E,K,ar,aw,a0,u,w1];refine⟨af a-(i+1),aa,i+1,v2,T,rfl,aa,λt A=>?_,?_,?_,?_,λy c r f=>?_,?_,?_,?_⟩
  .simp(disch:=omega)only[cX];exact l t A
  iterate 3 simp only[go_sem,D,s]
  .rw[ah.aT,ao aa];exact a3 y c r f
  .simp only[go_sem]
  .simp only[go_sem];omega
  .refine bn.set ?_ K _;obtain⟨W,e⟩:=jo.1 z;rw[lT W,e,yu];simpa [gA,ee]using J
 .have X:i=af a:=aa;subst X;have w:decide (((af a:Nat):Int)<((af a:Nat):Int))=false:=bP aa;rw[dr (aJ _)]at k;simp only[go_sem,Np,s,u,w];exact U _ _ v g (λt A=>by simp(disch:=omega)only[cX];exact l t A) hl eB k ae
end Go.Proofs.YtddhncjmaahodaaGreatDoor
namespace Go.ax
variable{b:ah}{a:Nat}{c:au}{d:Nat}
def bn.gn{v:V}(h:bn b a v c d):d=0\/d<b.ag:=by
 cases h with
 |nil=>exact .inl rfl
 |cells _ _ _ _ _ h _=>exact .inr h
end Go.ax
namespace Go.Proofs.YtddhncjmaahodaaGreatDoor
open Go.ax Go.aD
theorem avE(n:Nat)(hn:n=1\/n=2)(o:aF)(G a:List aF)(hi:∀q∈a,vR n q)(le:af a<=1000)(j:V)(f:Nat)(F:Fr)(H:ah)(R:b5)
 (U:rd 1 F=.func 157 [] []) (X:rd 6 F=.ptr 7 0) (W:rd 59 F=dc n a) (Y:rd 60 F=aj (af a)) (Z:rd 61 F=aj 0) (bp:H.get 7=an [fl n,aj n,fq o,j,.aA] 0) (ab:bn H 2 j (gA n G) f) (a1:8<=H.ag)
 (hR:∀J l v g,(∀t,t<10->rd t J=rd t F)->(∀y c,y<7->H.get y=an c 0->l.get y=an c 0)->l.get 7=an [fl n,aj n,fq o,j,v] 0->bn l 2 j (gA n G) f->bn l 2 v (gA n a) g->R (.exit 2) J l):bK (.loop (pc 156 7)) R F H:=by
 refine b8 (λm d b=>∃(i:Nat) (v:V) (g:Nat),m=af a-i/\i<=af a/\(∀t,t<10->rd t d=rd t F)/\rd 59 d=dc n a/\rd 60 d=aj (af a)/\rd 61 d=aj i/\(∀y c,y<7->H.get y=an c 0->b.get y=an c 0)/\b.get 7=an [fl n,aj n,fq o,j,v] 0/\8<=b.ag/\bn b 2 j (gA n G) f/\(g=0\/g≠f)/\bn b 2 v (gA n (a.take i)) g) (af a) ⟨0,.aA,0,rfl,cj _,λ_ _=>rfl,W,Y,Z,λ_ _ _ h=>h,bp,a1,ab,.inl rfl,.nil⟩ ?_;rintro m d b ⟨i,v,g,rfl,ar,D,K,x,z,hl,eB,bj,P,O,C⟩;have T:rd 1 d=.func 157 [] []:=by rw[D 1 ai];exact U
 have L:rd 6 d=.ptr 7 0:=by rw[D 6 ai];exact X
 rw[aaQ];obtain⟨bo,bs,bv⟩:=C.bM;by_cases ap:i<af a
 .obtain⟨q,E⟩:∃q,a[i]? =some q:=⟨a[i],c4 ap⟩;obtain⟨a2,a3⟩:=hi q (fL E);have M:=w5 (n:=n) E;have B:decide ((i:Int)<((af a:Nat):Int))=true:=b3 aa;have w1:aE .i64 ((i:Int)+1)=((i+1:Nat):Int):=by rw[aK _ aa];rfl
  have a5:=uh n (a.take i);rw[e8,p7 ar]at a5;have k:=GF n q aa a2 a3;have a9:dI [V.int .i64 (n:Int),fq q]=true:=rfl;have a0:¬b.ag=7:=aa;have aw:¬b.ag+1=7:=aa;unfold gV ee at k;simp only[ee]at M;simp(disch:=omega)only[go_sem,Nq,aaP,T,K,x,z,B,wm,cg,M];refine use k ?_;simp only[go_sem,decide_true,jQ,L,a0,aw,eB];have p:∀y,y<b.ag->((((b.push (an [aj 0,.aA] 0)).set b.ag (an [aj n,fq q] 0)).push (an [aj 0,.aA] 0)).set (b.ag+1) (an [aj n,fq q] 0)).get y=b.get y:=λy u=>by rw[ah.aT,ao aa,ah.bl,ao ff,ah.aT,ao aa,ah.bl,ao aa]
  have s:=C.low p ff;refine kM (bytes:=32) s rfl ai a9 ⟨aa,ai⟩ λv2 S A Q r w a'=>?_
  simp only[kQ,I6]at w a';have ad:=P.low p ff;have ae:=ad.other s ff w O;have be:f=0\/f<b.ag:=P.gn;have ac:A=0\/A≠f:=by
   rcases r with⟨_,r⟩|⟨q0,r⟩
   .simp only[go_sem]at r;omega
   .rw[r];exact O
  have I:=(w 7 aa (s.ne (cs:=[fl n,aj n,fq o,j,v]) (k:=0) (by rw[p 7 aa,eB]))).trans (by rw[p 7 aa,eB]);have ba:∀y c,y<7->H.get y=an c 0->S.get y=an c 0:=λy c u k=>by have N:=(p y aa).trans (hl y c u k);exact(w y aa (s.ne N)).trans N
  obtain⟨a6,a7,a8⟩:=Q.bM;simp only[go_sem,aaO,L,I,a6,a7,a8,z,w1];refine⟨af a-(i+1),aa,i+1,v2,A,rfl,aa,λt ht=>?_,?_,?_,?_,λy c u k=>?_,?_,?_,?_,?_,?_⟩
  .simp(disch:=omega)only[cX];exact D t ht
  iterate 3 simp only[go_sem,K,x]
  .rw[ah.aT,ao aa];exact ba y c u k
  .simp only[go_sem]
  .simp only[go_sem];omega
  .exact ae.set I _
  .exact ac
  .refine bn.set ?_ I _;obtain⟨al,e⟩:=jo.1 E;rw[lT al,e,yu];simpa [gA,ee]using Q
 .have am:i=af a:=aa;subst am;have B:decide (((af a:Nat):Int)<((af a:Nat):Int))=false:=bP aa;rw[dr (aJ _)]at C;simp only[go_sem,Nq,x,z,B]
  grind [cX]
def avF(n:Nat)(c:n=1\/n=2)(o:aF)(b a:List aF)(t:vR n o)(hi:∀q∈b,vR n q)(I:∀q∈a,vR n q)(Q:af b<=1000)(P:af a<=1000):
 bm 156 [nq n o b a,.func 157 [] []] (.aH [nq n o b a,aj 0]):=by
 refine gR (.f2 (xP n c o b a) (.func 157 .nil .nil)) (bg anM ?_);have L:af (zH n)=n:=by rcases c with e|e<;>rw[e]<;>rfl
 have J:ct (zH n):=by
  have:=Ic n c;cases this with
  |row _ h=>exact h
 have H:bm 227 [fl n] (fl n):=MN 227 (zH n) n aa L J (.inl rfl);have u:=GF n o aa t.1 t.2;unfold gV ee at u;have N:bM (fl n)=true:=rfl;have O:cellsOf (fl n)=[fl n]:=rfl;have bX:V.one (fl n)=true:=rfl;simp only[go_sem,d156,aaM,nq,jb];refine use H ?_;simp only[go_sem,aaL,N,O,bX];refine use u ?_;simp only[go_sem,aaK,aaJ,aaI,decide_true,jQ];refine avD n c o b a hi Q _ _ _ ?_ ?_ ?_ ?_ ?_ ?_ ?_ ?_
 iterate 6 simp only[go_sem]
 .simp only[go_sem];decide
 intro f U T D d j bp K M;have A:rd 1 f=.func 157 [] []:=by rw[d 1 ai];simp only[go_sem]
 have B:rd 2 f=.ptr 5 0:=by rw[d 2 ai];simp only[go_sem]
 have C:rd 4 f=.ptr 6 0:=by rw[d 4 ai];simp only[go_sem]
 have p:rd 6 f=.ptr 7 0:=by rw[d 6 ai];simp only[go_sem]
 have E:=j 5 (jb n o b a) ai (by simp only[go_sem];rfl);have F:=j 6 [.aA,aj 0,.aA,.aA,.aA] ai eJ;clear d j;simp only[go_sem,aaS,B,E,jb];refine avE n c o b a I P T D _ _ _ ?_ ?_ ?_ ?_ ?_ bp K M ?_
 iterate 5 simp only[go_sem,A,p]
 intro m W v2 X r G eB w x;have y:rd 4 m=.ptr 6 0:=by rw[r 4 ai];simp only[go_sem,C]
 have z:rd 6 m=.ptr 7 0:=by rw[r 6 ai];simp only[go_sem,p]
 have k:=G 6 _ ai F;obtain⟨Y,Z,R⟩:=w.bM;obtain⟨q1,ac,S⟩:=x.bM;simp only[go_sem,aaR,y,z,k,eB,R,S,bX];have s:∀(i:ah) v g l,bn i 2 v (gA n l) g->bS i (ah.zero i.ag) v (dc n l):=λi v g l h=>Q1 h (λ_ _ _=>m7)
 exact⟨_,.aH (.f2 (.agg (.f5 .mm .mm .mm (s _ _ _ _ (w.set k _)) (s _ _ _ _ (x.set k _)))) .mm),.aH (.f2 (xP n c o b a) .ii),rfl⟩
@[go_sem]theorem azL(n:Nat)(l:List aF):bM (dc n l)=true:=rfl
@[go_sem]theorem ay3(n:Nat)(l:List aF):cellsOf (dc n l)=[dc n l]:=rfl
@[go_sem]theorem aAA(n:Nat)(l:List aF):V.one (dc n l)=true:=rfl
@[go_sem]theorem azy(n:Nat):bM (fl n)=true:=rfl
@[go_sem]theorem ayU(n:Nat):cellsOf (fl n)=[fl n]:=rfl
@[go_sem]theorem aAr(n:Nat):V.one (fl n)=true:=rfl
def F7(n:Nat):∀l,dI (gA n l)=true
 |[]=>rfl
 |p::l=>by
  rw[tj];intro v a;rw[gA]at a;rcases ki.1 a with h|h
  .exact tj.1 (show dI (ee n p)=true from rfl) v h
  .exact tj.1 (F7 n l) v h
def GB(n:Nat)(a b:List aF)(c:af a<=1000)(d:af b<=1000):bm 155 [.row 2 [dc n a,dc n b]] (dc n (a++b)):=by have h:=XK (gA n a) (gA n b) (af a) (af b) (uh n a) (uh n b) (DH n a) (DH n b) (F7 n a) (F7 n b) ⟨c,d⟩;rw[<-yu,<-bw]at h;exact h
def KS(n:Nat)(o:aF)(f e s:List aF)(a b c:Nat)(d:Fr)(k:Nat)(F:Fr)(H:ah):Prop:=∃i:Nat,k=af s-i/\i<=af s/\(∀t,t<10->rd t F=rd t d)/\rd a F=dc n s/\rd b F=aj (af s)/\rd c F=aj i/\
 H.get 5=an (jb n o f e) 0/\H.get 6=an [.aA,aj 0,.aA,.aA,.aA] 0/\GT H/\7<=H.ag
def ajN(n:Nat)(Q:n=1\/n=2)(o:aF)(h d s:List aF)(M:∀q∈s,mC n q)(S:af s<=1000)(F:Fr)(H:ah)(R:b5)
 (z:rd 21 F=dc n s) (A:rd 22 F=aj (af s)) (B:rd 23 F=aj 0) (C:H.get 5=an (jb n o h d) 0) (D:H.get 6=an [.aA,aj 0,.aA,.aA,.aA] 0) (G:GT H) (K:7<=H.ag)
 (E:∀j a,(∀t,t<10->rd t j=rd t F)->a.get 5=an (jb n o h d) 0->a.get 6=an [.aA,aj 0,.aA,.aA,.aA] 0->GT a->7<=a.ag->R (.exit 0) j a):bK (.loop (pc 101 3)) R F H:=by
 refine b8 (KS n o h d s 21 22 23 F) (af s) ⟨0,rfl,cj _,λ_ _=>rfl,z,A,B,C,D,G,K⟩ ?_;rintro m O k ⟨i,rfl,P,v,l,b,c,x,y,r,L⟩;rw[Yn];by_cases J:i<af s
 .obtain⟨q,w⟩:∃q,s[i]? =some q:=⟨s[i],c4 J⟩;have f:=zN n aa q (M q (fL w));have p:=w5 (n:=n) w;have e:decide ((i:Int)<((af s:Nat):Int))=true:=b3 aa;have N:aE .i64 ((i:Int)+1)=((i+1:Nat):Int):=by rw[aK _ aa];rfl
  unfold gV at f;simp only[ee]at p f;have u:GT ((k.push (an [aj 0,.aA] 0)).set k.ag (an [aj n,fq q] 0)):=(r.push aa _).set aa _;simp(disch:=omega)only[go_sem,M0,Yg,l,b,c,e,wm,cg,p];refine bq f u ?_;simp only[go_sem,Yf,jQ,c,N];refine⟨af s-(i+1),aa,i+1,rfl,aa,λt g=>?_,?_,?_,?_,?_,?_,u,?_⟩
  .simp(disch:=omega)only[cX];exact v t g
  iterate 3 simp only[go_sem,l,b]
  .rw[ah.aT,ao aa,ah.bl,ao aa,x]
  .rw[ah.aT,ao aa,ah.bl,ao aa,y]
  .simp only[go_sem];omega
 .have I:i=af s:=aa;subst I;have e:decide (((af s:Nat):Int)<((af s:Nat):Int))=false:=bP aa;simp only[go_sem,M0,b,c,e];exact E _ _ (λt g=>by simp(disch:=omega)only[cX];exact v t g) x y r L
def ajO(n:Nat)(T:n=1\/n=2)(o:aF)(j e s:List aF)(U:af s<=1000)(F:Fr)(H:ah)(R:b5)
 (y:rd 3 F=.ptr 5 0) (z:rd 32 F=dc n s) (A:rd 33 F=aj (af s)) (B:rd 34 F=aj 0) (C:H.get 5=an (jb n o j e) 0) (D:H.get 6=an [.aA,aj 0,.aA,.aA,.aA] 0) (G:GT H) (M:7<=H.ag)
 (E:∀l a,(∀t,t<10->rd t l=rd t F)->a.get 5=an (jb n o j e) 0->a.get 6=an [.aA,aj 0,.aA,.aA,.aA] 0->GT a->7<=a.ag->R (.exit 2) l a):bK (.loop (pc 101 7)) R F H:=by
 refine b8 (KS n o j e s 32 33 34 F) (af s) ⟨0,rfl,cj _,λ_ _=>rfl,z,A,B,C,D,G,M⟩ ?_;rintro m w b ⟨i,rfl,S,g,p,c,d,k,v,u,N⟩;have x:rd 3 w=.ptr 5 0:=by rw[g 3 ai];exact y
 rw[Yq];by_cases K:i<af s
 .obtain⟨q,O⟩:∃q,s[i]? =some q:=⟨s[i],c4 K⟩;have r:=w5 (n:=n) O;have f:decide ((i:Int)<((af s:Nat):Int))=true:=b3 aa;have Q:aE .i64 ((i:Int)+1)=((i+1:Nat):Int):=by rw[aK _ aa];rfl
  have L:di (fl n)=some (.val (aj n)):=rfl;have P:¬b.ag=5:=aa;have I:GT ((b.push (an [aj 0,.aA] 0)).set b.ag (an [aj n,fq q] 0)):=(u.push aa _).set aa _;simp only[ee]at r;simp(disch:=omega)only[go_sem,M1,Yp,x,p,c,d,f,wm,cg,r,k,jb,P,L,decide_true,jQ];simp only[go_sem,Yo,d,Q];refine⟨af s-(i+1),aa,i+1,rfl,aa,λt h=>?_,?_,?_,?_,?_,?_,I,?_⟩
  .simp(disch:=omega)only[cX];exact g t h
  iterate 3 simp only[go_sem,p,c]
  .rw[ah.aT,ao aa,ah.bl,ao aa,k]
  .rw[ah.aT,ao aa,ah.bl,ao aa,v]
  .simp only[go_sem];omega
 .have J:i=af s:=aa;subst J;have f:decide (((af s:Nat):Int)<((af s:Nat):Int))=false:=bP aa;simp only[go_sem,M1,c,d,f];exact E _ _ (λt h=>by simp(disch:=omega)only[cX];exact g t h) k v u N
variable{a:Nat}{k:aF}
def Ex(h:mC a k):vR a k:=⟨λc b=>(h.t c b).len,h.len⟩
def ajX(p:fM)(h:p.aG)(s:List aF)(z:∀q∈s,mC p.n q)(ls:af s<=8):cU 101 [hC p,dc p.n s,.aA] (.aH [nq p.n p.obj (p.is++s) p.es,aj 0]):=by
 have b:=h.n;have Z:=h.li;have Y:=h.le;have j:=GB p.n s [] aa aI;have C:=GB p.n p.is s aa aa;have k:=GB p.n p.es [] aa aI;rw[hU]at j k;have K:=Ex (sD b ai h.obj);have J:∀q∈p.is++s,vR p.n q:=λq hq=>by
  rcases ki.1 hq with hq|hq
  .exact Ex (sD b ai (h.is q hq))
  .exact Ex (z q hq)
 have I:∀q∈p.es,vR p.n q:=λq hq=>Ex (sD b ai (h.es q hq))
 have A:=avF p.n b p.obj (p.is++s) p.es K J I (by rw[bw];omega) aa;have B:=UD p h;unfold hC at B;unfold nq jb at A;refine dg (.f3 (q2 p b) (ze _ _) .aA) (bg ani ?_);simp only[go_sem,d101,Ym,hC];refine bq B dh ?_;simp only[go_sem,Yl,jQ];refine kV (b:=7) (cs:=[dc p.n s,.aA]) (args2:=[.row 2 [dc p.n s,dc p.n []]]) j ?_ ⟨0,2,.known 2,fj.2 rfl⟩ (.f1 (.row (m:=2) (cs:=[dc p.n s,.aA]) ?_ ai ?_ (.f2 .mm .gK))) ?_
 .simp only[go_sem]
 .rw[fO (cs:=[dc p.n s,.aA]) eJ];rfl
 .simp only[go_sem]
 have X:di (dc p.n s)=some (.val (aj (af s))):=rfl;have W:bM (dc p.n s)=true:=rfl;simp only[go_sem,Yk];refine ajN p.n b p.obj p.is p.es s z aa _ _ _ ?_ ?_ ?_ ?_ ?_ dh ?_ ?_
 iterate 3 simp only[go_sem]
 .simp only[go_sem];rfl
 .simp only[go_sem]
 .simp only[go_sem];decide
 intro d T a v w x y;have o:rd 1 d=dc p.n s:=by rw[a 1 ai];simp only[go_sem]
 have r:rd 2 d=.aA:=by rw[a 2 ai];simp only[go_sem]
 have g:rd 3 d=.ptr 5 0:=by rw[a 3 ai];simp only[go_sem]
 have t:rd 6 d=.ptr 6 0:=by rw[a 6 ai];simp only[go_sem]
 have u:rd 8 d=dc p.n s:=by rw[a 8 ai];simp only[go_sem]
 clear a;simp only[go_sem,Yj,u];refine ajO p.n b p.obj p.is p.es s aa _ _ _ ?_ ?_ ?_ ?_ v w x y ?_
 iterate 4 simp only[go_sem,g]
 intro e c a i L H U;have l:rd 1 e=dc p.n s:=by rw[a 1 ai];simp only[go_sem,o]
 have m:rd 2 e=.aA:=by rw[a 2 ai];simp only[go_sem,r]
 have f:rd 3 e=.ptr 5 0:=by rw[a 3 ai];simp only[go_sem,g]
 have F:rd 6 e=.ptr 6 0:=by rw[a 6 ai];simp only[go_sem,t]
 clear a o r g t u v w x y;have M:di V.aA=some (.val (aj 0)):=rfl;have R:aE .i64 ((p.is.length:Int)+(af s:Int))=((p.is.length+af s:Nat):Int):=by rw[aK _ aa];rfl
 have S:aE .i64 ((p.es.length:Int)+0)=(p.es.length:Int):=by rw[aK _ aa];omega
 have D:decide (((p.is.length+af s:Nat):Int)>16)=false:=bP aa;have E:decide ((p.es.length:Int)>16)=false:=bP aa;have P:¬c.ag=5:=aa;simp only[go_sem,Yi,l,m,f,i,jb,M,R,S,D,E];simp only[go_sem,Yh,l,f,i,jb];refine kV (b:=c.ag) (cs:=[dc p.n p.is,dc p.n s]) (args2:=[.row 2 [dc p.n p.is,dc p.n s]]) C ?_ ⟨0,2,.known 2,fj.2 rfl⟩ (.f1 (.row (m:=2) (cs:=[dc p.n p.is,dc p.n s]) ?_ ai ?_ (.f2 .mm .mm))) ?_
 .simp only[go_sem]
 .rw[fO (cs:=[dc p.n p.is,dc p.n s]) eJ];rfl
 .simp only[go_sem]
 have Q:¬c.ag=6:=aa;have N:¬c.ag+1=5:=aa;have O:¬c.ag+1=6:=aa;simp only[go_sem,Ys,m,f,i,jb,P];refine kV (b:=c.ag+1) (cs:=[dc p.n p.es,.aA]) (args2:=[.row 2 [dc p.n p.es,dc p.n []]]) k ?_ ⟨0,2,.known 2,fj.2 rfl⟩ (.f1 (.row (m:=2) (cs:=[dc p.n p.es,.aA]) ?_ ai ?_ (.f2 .mm .gK))) ?_
 .simp only[go_sem]
 .rw[fO (cs:=[dc p.n p.es,.aA]) eJ];rfl
 .simp only[go_sem]
 have G:bA (.aH [nq p.n p.obj (p.is++s) p.es,aj 0]):=.aH (.f2 (xP _ b _ _ _) .ii);simp only[go_sem,Yr,f,N];refine use A ?_;simp only[go_sem,F,L,Q,O];refine bO ?_ rfl G
 repeat' first|exact H|omega|(simp only[go_sem];omega)|refine GT.set ?_ ?_ _|refine GT.push ?_ ?_ _
def fY(e:av):av:=e++aZ (6-af e) 0
variable{g:av}
def wL(h:af g<=6):af (fY g)=6:=by simp[fY];omega
def Jm(e:av):(fY e).sum=e.sum:=by simp[fY]
def Jo(e:av):en e=bL (fY e):=by simp[en,fY,bL]
theorem apI(t:b9):bM (pH t)=true:=rfl
theorem XF(t:b9):cellsOf (pH t)=b7 t:=rfl
def Xw(s t:b9)(d:s.2.length<=6)(e:t.2.length<=6)(ss:s.2.sum<=24)(st:t.2.sum<=24):bm 275 [pH s,pH t] (aj (ord (fY t.2) (fY s.2))):=by
 refine dM (.f2 (Ia s) (Ia t)) (.int _ _) (bg aoE ?_);have g:∀b,slice3 (ou 6 1) false false false [.ptr b 0]=some (.val (.slice b 0 6 (.known 6))):=λb=>rfl
 have h:=wL d;have i:=wL e;simp only[go_sem,d275,ad6,apI,XF,g];have c:∀(H:ah) (b:Nat) (u:b9),u.2.length<=6->H.get b=an (b7 u) 0->bS H (ah.zero H.ag) (.slice b 0 6 (.known 6)) (bf (fY u.2)):=λH b u a f=>by unfold bf;rw[wL a];refine .row (m:=6) (cs:=bL (fY u.2)) ?_ ai (ah.hL _ _) (dn.refl _);rw[fO f,dQ,fB,b7,Jo,ay (by rw[bw,jz,wL a];omega),s6 (by rw[jz,wL a])]
 refine(yV (R:=λv=>v=aj (ord (fY t.2) (fY s.2))) (.f2 (c _ _ t e ?_) (c _ _ s d ?_)) ((S0 (fY t.2) (fY s.2) aa aa (by rw[Jm];omega) (by rw[Jm];omega) _).mono ?_)).mono ?_
 iterate 2 simp only[go_sem]
 .rintro _ _ ⟨rfl,rfl⟩;exact⟨_,λb=>.int _ _,rfl⟩
 .rintro _ _ ⟨rfl,rfl⟩;simp only[go_sem]
@[go_sem]theorem ay8(x y:V):oL [.func 275 [] [],x,y]=some (.fn 275,[x,y]):=rfl
variable{c:au}
def Sc{d b:au}(h:af c=a)(e:af b=af d):dj b (c++d) a=some (c++b):=by rw[mH,ay (by rw[bw];omega),s6 h,List.drop_eq_nil_of_le (by rw[bw];omega),hU]
def aqv{b a:au}(h:af a=af c):dj a (c++b) 0=some (a++b):=by rw[mH,ay (by rw[bw];omega),vM,fS,eW,List.drop_left' h.symm]
def Ek{ys:au}(h:af c=a):cW (eH (c++ys) 0) a=some c:=by rw[dQ,fB,ay (by rw[bw];omega),s6 h]
variable{d:Nat}
def Bj{b:au}(h:af c=d)(e:af b=a):cW (eH (c++b) d) a=some b:=by rw[l8,List.drop_left' h,fB,ay aa,dr aa]
def TY(s t:b9)(i:s.2.length<=6)(j:t.2.length<=6)(ss:s.2.sum<=24)(st:t.2.sum<=24)(H:ah)(b:Nat)(c:Cap)(g:H.get b=an (b7 s++b7 t) 0):
 dm 372 [.slice b 0 2 c,aj 0,aj 2,.func 275 [] []] H λ_ q=>q=if ord (fY s.2) (fY t.2)<0 then(H.set b (an (b7 s++b7 s) 0)).set b (an (b7 t++b7 s) 0)else H:=by
 have h:=Xw t s j i st ss;unfold pH at h;have d:=nv i;have n:=nv j;have k:dO none 10 [.slice b 0 2 c,aj 0]=some (.val (.ptr b 0)):=cH ai;have l:dO none 10 [.slice b 0 2 c,aj 1]=some (.val (.ptr b 10)):=cH ai;have f:=Ek (ys:=b7 t) d;rw[dQ]at f;have m:=Bj d n;have v:bM (.agg (b7 s))=true:=rfl;have w:cellsOf (.agg (b7 s))=b7 s:=rfl;have bX:bM (.agg (b7 t))=true:=rfl;have x:cellsOf (.agg (b7 t))=b7 t:=rfl;have y:c_ (b7 s)=10:=by rw[iw,d]
 have z:c_ (b7 t)=10:=by rw[iw,n]
 have A:dj (b7 s) (b7 s++b7 t) 10=some (b7 s++b7 s):=Sc d aa;have B:dj (b7 t) (b7 s++b7 s) 0=some (b7 t++b7 s):=aqv aa;have C:aE .i64 ((0:Int)+1)=1:=rfl;have p:aE .i64 ((1:Int)+1)=2:=rfl;have o:aE .i64 ((1:Int)-1)=0:=rfl;have d12:decide ((1:Int)<2)=true:=rfl;have d22:decide ((2:Int)<2)=false:=rfl;have u:decide ((1:Int)>0)=true:=rfl;have r:decide ((0:Int)>0)=false:=rfl;refine bg RJ ?_;simp only[go_sem,d372,Pa,C];refine ug 3 ?_;rw[k3];simp only[go_sem,O_,agQ,d12];refine ug 3 ?_;rw[k3];simp only[go_sem,agP,u,o,k,l,g,f,m];refine use h ?_;by_cases a:ord (fY s.2) (fY t.2)<0
 .rw[ay a];have e:decide (ord (fY s.2) (fY t.2)<0)=true:=b3 a;simp only[go_sem,agO,agN,e,o,k,l,g,f,m,v,w,bX,x,y,z,A,B,uM];rw[k3];simp only[go_sem,r];simp only[go_sem,O9,p];rw[k3];simp only[go_sem,d22]
 .rw[ao a];have e:decide (ord (fY s.2) (fY t.2)<0)=false:=bP a;simp only[go_sem,O9,e,p];rw[k3];simp only[go_sem,d22]
def auC(v:V)(hl:di v=some (.val (aj 1)))(H:ah):dm 372 [v,aj 0,aj 1,.func 275 [] []] H λ_ a=>a=H:=by have b:aE .i64 ((0:Int)+1)=1:=rfl;have d11:decide ((1:Int)<1)=false:=rfl;refine bg RJ ?_;simp only[go_sem,d372,Pa,b];refine ug 1 ?_;rw[k3];simp only[go_sem,O_,d11]
def We:ec 5 ef 145 [aC 1] (aj 1)=true:=ep
def Wf:ec 5 ef 145 [aC 2] (aj 2)=true:=ep
def Wg(m:Int)(a:m=1\/m=2):bm 145 [aC m] (aj m):=by
 rcases a with rfl|rfl
 .exact eo eg We
 .exact eo eg Wf
def TZ(v:V)(m:Int)(b:m=1\/m=2)(hl:di v=some (.val (aj m)))(H:ah)(Q:ah->Prop)(e:dm 372 [v,aj 0,aj m,.func 275 [] []] H λ_ a=>Q a):
 dm 274 [v,.func 275 [] []] H λ_ a=>Q a:=by
 have f:aE .u64 m=m:=by rcases b with rfl|rfl<;>rfl
 have g:aE .i64 (m-0)=m:=by rcases b with rfl|rfl<;>rfl
 have h:decide (12<m)=false:=by rcases b with rfl|rfl<;>rfl
 refine bg aoD ?_;simp only[go_sem,d274,ad5,hl,f];refine use (Wg m b) ?_;simp only[go_sem];have d:dm 334 [v,aj 0,aj m,aj m,.func 275 [] []] H λ_ a=>Q a:=by
  refine bg aoX ?_;simp only[go_sem,d334,afN,afM];refine ug 1 ?_;rw[k3];simp only[go_sem,afL,afK,g,h];refine e.mono λi a c=>?_
  simp only[go_sem];exact c
 refine d.mono λi a c=>?_
 simp only[go_sem];exact c
def mg(t:b9):aF:=if t.1.num=0 then []else [t]
def za(s t:b9)(i:Nat):b9:=if i=0 then s else t
def qo(t:b9):V×V:=(.agg (en t.2),cZ t.1)
def yx(l d:av):Prop:=(l=[1,0]/\d=[])\/(l=[1]/\d=[0])\/(l=[0]/\d=[1])\/(l=[]/\(d=[0,1]\/d=[1,0]))
def yx.ag{d:av}(h:yx g d)(hi:a∈g):yx (qE a g) (d++[a])/\a<2/\af (qE a g)+1=af g:=by
 rcases h with⟨rfl,rfl⟩|⟨rfl,rfl⟩|⟨rfl,rfl⟩|⟨rfl,_⟩
 .simp only[jr,rV,or_false]at hi;rcases hi with rfl|rfl
  .exact⟨.inr (.inr (.inl ⟨rfl,rfl⟩)),ai,rfl⟩
  .exact⟨.inr (.inl ⟨rfl,rfl⟩),ai,rfl⟩
 .simp only[jr,rV,or_false]at hi;subst hi;exact⟨.inr (.inr (.inr ⟨rfl,.inl rfl⟩)),ai,rfl⟩
 .simp only[jr,rV,or_false]at hi;subst hi;exact⟨.inr (.inr (.inr ⟨rfl,.inr rfl⟩)),ai,rfl⟩
 .cases hi
def yx.room{d:av}(h:yx g d):af g+af d=2:=by rcases h with⟨rfl,rfl⟩|⟨rfl,rfl⟩|⟨rfl,rfl⟩|⟨rfl,rfl|rfl⟩<;>rfl
def gI(s t:b9)(d:av):aF:=d.flatMap λi=>mg (za s t i)
def arJ(t:b9):af (mg t)<=1:=by unfold mg;split<;>simp
def Ln(s t:b9):∀d,af (gI s t d)<=af d
 |[]=>aJ 0
 |i::d=>by have:=Ln s t d;have a:=arJ (za s t i);unfold gI at this⊢;rw[List.flatMap_cons,bw,dZ];omega
def Lo(s t:b9)(d:av)(i:Nat):gI s t (d++[i])=gI s t d++mg (za s t i):=by simp[gI]
variable{N:b9}
def VQ{t:b9}(b:N.2.length<=6)(c:t.2.length<=6)(d:av):∀x∈gI N t d,x.2.length<=6:=by
 intro x a;unfold gI at a;obtain⟨i,_,hi⟩:=List.mem_flatMap.1 a;unfold mg at hi;split at hi
 .cases hi
 .rw[fj.1 hi];unfold za;split<;>assumption
def R_{a:au}(h:af c<=af a):oV c a=some (c++a.drop (af c)):=by
 have:=IV (xs:=c) (l:=a) h;cases a with
 |nil=>exact this
 |cons y a=>exact this
def VN(e:av):dI (en e)=true:=by rw[Jo];exact Ay _
variable{b:ah}
def aju{m since last:Nat}{left:av}{es:List (V×V)}{e:V×V}(g:b.get a=.bW (.iter m since left (some d) last))(h:b.get m=.bW (.map es))(hl:af es=last)(f:es[d]? =some e):uS [.ptr a 0] b=some (.aH [e.1,e.2]):=by
 unfold uS;simp only[g];have c:b.j9 m=some es:=by unfold ah.j9;rw[h]
 rw[c];show aX (bt (c_ es) last) (aq (dw es d) λe=>some (V.aH [e.1,e.2]))=_;rw[iw,hl,uA,iu,f];rfl
def uj:au:=[aj 0,aj 0,aj 0,aj 0,aj 0,aj 0,aR,.aA,aR,.aA]
def FC(s t:b9)(N m a b:Nat)(c:ah)(k:Nat)(F:Fr)(H:ah):Prop:=∃(l d:av) (e:cq) (L:au),k=af l/\yx l d/\rd 40 F=.ptr a 0/\rd 8 F=.slice b 0 (af (gI s t d)) (.known 2)/\
 H.get m=.bW (.map [qo s,qo t])/\H.get a=.bW (.iter m 2 l e 2)/\H.get b=an L 0/\L.length=20/\L.take (af (gI s t d)*10)=gO (gI s t d)/\(∀y,y<N->H.get y=c.get y)/\a<H.ag
def XI(s t:b9)(hs:s.2.length<=6)(ht:t.2.length<=6)(N m a b:Nat)(b_:N<=m)(b':m<b)(bv:b<a)(w:ah)(R:b5)(k:Nat)(F:Fr)(H:ah)(h:FC s t N m a b w k F H)
 (hR:∀J n d L,(d=[0,1]\/d=[1,0])->rd 8 J=.slice b 0 (af (gI s t d)) (.known 2)->n.get b=an L 0->L.length=20->L.take (af (gI s t d)*10)=gO (gI s t d)->(∀y,y<N->n.get y=w.get y)->a<n.ag->R (.exit 4) J n):
 bK (pc 225 12) (gy (qT (FC s t N m a b w) k) R) F H:=by
 obtain⟨l,d,ap,L,rfl,E,o,B,p,ar,C,K,D,G,a7⟩:=h;rw[acF];simp only[go_sem,o];refine⟨a,m,2,l,ap,2,[qo s,qo t],rfl,ar,p,?_,?_⟩
 .intro i T vx hi hl;have a6:i∈l:=by
   rcases hl with h|h
   .exact h
   .obtain⟨h1,_⟩:=jo.1 hi;have:i<2:=h1;omega
  obtain⟨M,b1,b2⟩:=E.ag a6;obtain⟨u,j⟩:∃u,za s t i=u:=⟨_,rfl⟩;have v:u.2.length<=6:=by rw[<-j];unfold za;split<;>assumption
  have P:(T,vx)=qo u:=by
   have a3:i=0\/i=1:=aa;rcases a3 with rfl|rfl
   .rw[<-j];exact(Option.some.inj hi).symm
   .rw[<-j];exact(Option.some.inj hi).symm
  obtain⟨rfl,rfl⟩:T=.agg (en u.2)/\vx=.agg (cc u.1):=⟨congrArg Prod.fst P,congrArg Prod.snd P⟩;have a2:uS [.ptr a 0] (H.set a (.bW (.iter m 2 (qE i l) (some i) 2)))=some (.aH [.agg (en u.2),.agg (cc u.1)]):=aju (m:=m) (since:=2) (last:=2) (left:=qE i l) (es:=[qo s,qo t]) (e:=(.agg (en u.2),.agg (cc u.1))) jE (by rw[ah.aT,ao aa];exact p) rfl hi;have k1:∀e,bM (.agg (en e))=true:=λ_=>rfl
  have k2:∀e,cellsOf (.agg (en e))=en e:=λ_=>rfl
  have c:=BB v;have bX:c_ (en u.2)=6:=by rw[iw,c]
  have bb:dj (en u.2) [aj 0,aj 0,aj 0,aj 0,aj 0,aj 0] 0=some (en u.2):=x4 c;have bc:∀q,bM (.agg (cc q))=true:=λ_=>rfl
  have bd:∀q,cellsOf (.agg (cc q))=cc q:=λ_=>rfl
  have eB:∀q,c_ (cc q)=4:=λ_=>rfl
  have lH:∀q,dj (cc q) [aR,.aA,aR,.aA] 0=some (cc q):=λ_=>rfl
  have pJ:∀q,dI (cc q)=true:=λ_=>rfl
  have S:∀q,cW (cc q) 4=some (cc q):=λ_=>rfl
  have sx:cW (en u.2) 6=some (en u.2):=je c;have g:=nv v;have zq:oV (en u.2) uj=some (en u.2++[aR,.aA,aR,.aA]):=by rw[R_ (by rw[c];decide),c];rfl
  have A8:dj (cc u.1) (en u.2++[aR,.aA,aR,.aA]) 6=some (b7 u):=Sc c rfl;have zu:bM (.agg (b7 u))=true:=rfl;have anI:cellsOf (.agg (b7 u))=b7 u:=rfl;have D7:c_ (b7 u)=10:=by rw[iw,g]
  have D8:oV (b7 u) uj=some (b7 u):=by rw[R_ (by rw[g];decide),g];show some (b7 u++[])=_;rw[hU]
  unfold uj at zq D8;have U:¬H.ag+1=H.ag:=aa;have V:¬H.ag=b:=aa;have W:¬H.ag+1=b:=aa;have X:¬H.ag=a:=aa;have Y:¬H.ag+1=a:=aa;have Z:¬H.ag=m:=aa;have ab:¬H.ag+1=m:=aa;have ac:¬a=b:=aa;have ad:¬a=m:=aa;have bs:¬H.ag=H.ag+1:=aa;have Q:=D3 u.1;unfold cZ at Q;simp only[go_sem,NT,acE,o,dZ,p5,Nat.reduceAdd,a2,k1,k2,bX,bb,bc,bd,eB,lH,pJ,VN,U,bs];simp only[go_sem,acN,S];refine use Q ?_;have ca:=E.room;have b0:=Ln s t d;by_cases r:u.1.num=0
  .have f:gI s t (d++[i])=gI s t d:=by rw[Lo,j,mg,ay r,hU]
   simp only[go_sem,NW,b3 r,jQ];refine⟨af (qE i l),aa,qE i l,d++[i],some i,L,rfl,M,?_,?_,?_,?_,?_,K,?_,?_,?_⟩
   iterate 5 simp only[go_sem,o,B,f,Z,ab,ad,p,X,Y,V,W,ac,C]
   .rw[f];exact D
   .intro y I;have x:¬H.ag=y:=aa;have z:¬H.ag+1=y:=aa;have A:¬a=y:=aa;simp only[go_sem,x,z,A];exact G y I
   .simp only[go_sem];omega
  .have f:gI s t (d++[i])=gI s t d++[u]:=by rw[Lo,j,mg,ao r]
   simp only[go_sem,NW,bP r,lS,U,bX,eB,S,sx,zq,A8,zu,anI,D7,D8,B];refine HX (b:=b) (n:=2) (L:=L) (new:=b7 u) ?_ aa (nv v) aa ⟨ai,ai⟩ (uM u) ?_ ?_
   .simp only[go_sem,V,W,ac,C]
   .simp only[go_sem];omega
   have cb:¬H.ag+1+1=b:=aa;have be:¬b=m:=aa;have bi:¬b=a:=aa;have bj:¬H.ag+1+1=m:=aa;have bo:¬H.ag+1+1=a:=aa;simp only[go_sem];refine⟨af (qE i l),aa,qE i l,d++[i],some i,L.take (af (gI s t d)*10)++b7 u++L.drop (af (gI s t d)*10+10),rfl,M,?_,?_,?_,?_,?_,?_,?_,?_,?_⟩
   iterate 5 simp only[go_sem,o,f,bw,dZ,p5,Z,ab,ad,be,bj,p,X,Y,bi,bo]
   .simp only[bw,e8,lB,nv v];omega
   .have O:=HZ (gI s t d) (VQ hs ht d);rw[f,DC,D,bw,iA,fT,kn,Am (by rw[bw,O,g];omega),dr (by rw[bw,O,g];omega)];simp[gO]
   .intro y I;have x:¬H.ag=y:=aa;have z:¬H.ag+1=y:=aa;have A:¬a=y:=aa;have a4:¬H.ag+1+1=y:=aa;have a5:¬b=y:=aa;simp only[go_sem,x,z,A,a4,a5];exact G y I
   .simp only[go_sem];omega
 .intro hl;have hd:l=[]/\(d=[0,1]\/d=[1,0]):=by
   rcases E with⟨rfl,rfl⟩|⟨rfl,rfl⟩|⟨rfl,rfl⟩|⟨rfl,h⟩
   .exact absurd (hl 0 aI) aI
   .exact absurd (hl 1 aI) aI
   .exact absurd (hl 0 aI) aI
   .exact⟨rfl,h⟩
  simp only[go_sem,NT];exact hR _ _ d L hd.2 (by simp only[go_sem,B]) C K D G a7
def XH(s t:b9)(w:s.2.length<=6)(x:t.2.length<=6)(N m a b:Nat)(b_:N<=m)(u:m<b)(r:b<a)(R:b5)(F:Fr)(H:ah)(L:au)(i:rd 40 F=.ptr a 0)(j:rd 8 F=.slice b 0 0 (.known 2))
 (o:H.get m=.bW (.map [qo s,qo t])) (n:H.get a=.bW (.iter m 2 [1,0] none 2)) (l:H.get b=an L 0) (p:L.length=20) (v:a<H.ag)
 (q:∀e c d L,(d=[0,1]\/d=[1,0])->rd 8 e=.slice b 0 (af (gI s t d)) (.known 2)->c.get b=an L 0->L.length=20->L.take (af (gI s t d)*10)=gO (gI s t d)->(∀y,y<N->c.get y=H.get y)->a<c.ag->R (.exit 4) e c):
 bK (.loop (pc 225 12)) R F H:=by
 refine b8 (FC s t N m a b H) 2 ⟨[1,0],[],none,L,rfl,.inl ⟨rfl,rfl⟩,i,j,o,n,l,p,rfl,λ_ _=>rfl,v⟩ ?_;intro k f g h;exact XI s t w x N m a b b_ u r H R k f g h q
def d6:V->V->Option Bool:=Aw [.int .i64,.int .i64,.int .i64,.int .i64,.int .i64,.int .i64]
variable{x:cq}{j:Fr}{s:cm}
@[go_sem↓]theorem axo{P:Program}(c:Fr->V):ey P a (cJ c) x j b s=tc x s j b (wA [c j] b):=rfl
def zC{es:List (V×V)}(h:b.get a=.bW (.map es)):b.j9 a=some es:=by unfold ah.j9;rw[h]
variable{z:V->V->Option Bool}{l:V}
def aqd{c:V}(h:b.get a=.bW (.map []))(e:z l l=some true):wD z c false [.map a,l] b=some c:=by show aq (z l l) (λ_=>aq (b.j9 a) λd=>aq (rm z l d 0) λr=>Option.casesOn (motive:=λ_=>Option V) r (some (wF false c false)) (λq=>some (wF false q.2 true)))=_;rw[e,zC h];rfl
def aqe{k1 v1 c:V}(h:b.get a=.bW (.map [(k1,v1)]))(e:z l l=some true)(f:z l k1=some false):wD z c false [.map a,l] b=some c:=by show aq (z l l) (λ_=>aq (b.j9 a) λd=>aq (rm z l d 0) λr=>Option.casesOn (motive:=λ_=>Option V) r (some (wF false c false)) (λq=>some (wF false q.2 true)))=_;rw[e,zC h];show aq (aq (z l k1) _) _=_;rw[f];rfl
def avZ{v:V}(h:b.get a=.bW (.map []))(d:z l l=some true):Aa z [.map a,l,v] b=some (V.undef,b.set a (.bW (.map [(l,v)]))):=by show aq (z l l) (λ_=>aq (b.j9 a) λc=>aq (rm z l c 0) λr=>Option.casesOn (motive:=λ_=>Option (V×ah)) r (some (V.undef,b.set a (.bW (.map (dJ c [(l,v)]))))) (λq=>some (V.undef,b.set a (.bW (.map (Bg c (l,v) q.1))))))=_;rw[d,zC h];rfl
def av0{v k1 v1:V}(h:b.get a=.bW (.map [(k1,v1)]))(d:z l l=some true)(e:z l k1=some false):Aa z [.map a,l,v] b=some (V.undef,b.set a (.bW (.map [(k1,v1),(l,v)]))):=by show aq (z l l) (λ_=>aq (b.j9 a) λc=>aq (rm z l c 0) λr=>Option.casesOn (motive:=λ_=>Option (V×ah)) r (some (V.undef,b.set a (.bW (.map (dJ c [(l,v)]))))) (λq=>some (V.undef,b.set a (.bW (.map (Bg c (l,v) q.1))))))=_;rw[d,zC h];show aq (aq (z l k1) _) _=_;rw[e];rfl
def K9(q:Rat)(c:aM 1000 q)(H:ah)(b:GT H):dm 112 [.agg [aR,.aA,aR,.aA],.agg (cc q)] H λv a=>v=.agg (cc q)/\a=H:=by have h:=JF 0 q (a:=1) (b:=1000) ⟨ai,ai⟩ c ai H b;rw[Rat.zero_add,<-S_]at h;exact C3 (.f2 (.agg (.f4 .mm .gK .mm .gK)) .mm) h
theorem XG(s t:b9)(v:s.2.length<=6)(w:t.2.length<=6)(g:d6 (.agg (en s.2)) (.agg (en s.2))=some true)(i:d6 (.agg (en t.2)) (.agg (en t.2))=some true)(h:d6 (.agg (en t.2)) (.agg (en s.2))=some false)
 (ac:aM 1000 s.1) (ad:aM 1000 t.1) (m be:Nat) (d:Cap) (F:Fr) (H:ah) (R:b5) (r:GT H) (p:H.get m=.bW (.map [])) (q:H.get be=an (b7 s++b7 t) 0) (hm:m<H.ag) (L:5<=m) (ap:be<H.ag)
 (o:rd 3 F=.map m) (l:rd 18 F=.slice be 0 2 d) (f:rd 19 F=aj 2) (n:rd 20 F=aj 0)
 (G:∀k b,(∀t,t<18->t≠7->rd t k=rd t F)->b.get m=.bW (.map [qo s,qo t])->(∀y,y<H.ag->y≠m->b.get y=H.get y)->b.ag=H.ag+2->R (.exit 2) k b):
 bK (.loop (pc 225 3)) R F H:=by
 unfold d6 at g i h;have c:=nv v;have j:=nv w;have C:=BB v;have D:=BB w;have N:dO none 10 [.slice be 0 2 d,aj 0]=some (.val (.ptr be 0)):=cH ai;have O:dO none 10 [.slice be 0 2 d,aj 1]=some (.val (.ptr be 10)):=cH ai;have z:=Ek (ys:=b7 t) c;rw[dQ]at z;have V:=Bj c j;have P:bM (.agg (b7 s))=true:=rfl;have Q:cellsOf (.agg (b7 s))=b7 s:=rfl;have bX:bM (.agg (b7 t))=true:=rfl;have S:cellsOf (.agg (b7 t))=b7 t:=rfl;have T:c_ (b7 s)=10:=by rw[iw,c]
 have U:c_ (b7 t)=10:=by rw[iw,j]
 have eB:dj (b7 s) uj 0=some (b7 s):=x4 c;have lH:dj (b7 t) uj 0=some (b7 t):=x4 j;unfold uj at eB lH;have pJ:cW (b7 s) 6=some (en s.2):=by have:=Ek (ys:=cc s.1) C;rwa[dQ]at this
 have x:cW (b7 t) 6=some (en t.2):=by have:=Ek (ys:=cc t.1) D;rwa[dQ]at this
 have sx:cW (eH (b7 s) 6) 4=some (cc s.1):=Bj C rfl;have zq:cW (eH (b7 t) 6) 4=some (cc t.1):=Bj D rfl;have ae:aE .i64 ((0:Int)+1)=1:=rfl;have al:aE .i64 ((1:Int)+1)=2:=rfl;have E:decide ((0:Int)<2)=true:=rfl;have d12:decide ((1:Int)<2)=true:=rfl;have d22:decide ((2:Int)<2)=false:=rfl;have A:¬H.ag=m:=aa;have W:¬H.ag=be:=aa;have a1:¬H.ag+1=be:=aa;have B:¬H.ag+1=m:=aa;have a2:¬H.ag=H.ag+1:=aa;have X:¬m=be:=λe=>by grind
 have a3:¬m=H.ag:=aa;have a4:¬m=H.ag+1:=aa;refine ug 3 ?_;rw[k3];obtain⟨K,a⟩:∃K,K=rW e9 5 (pc 225 3) R 2:=⟨_,rfl⟩;rw[<-a];simp only[go_sem,GX,GW,NS,E,N,q,z,P,Q,T,eB,pJ,o,l,f,n,uM];rw[aqd (by simp only[go_sem,A,p]) g];simp only[go_sem,sx];refine(K9 s.1 ac _ ((r.push aa _).set aa _)).mono ?_;rintro _ _ ⟨rfl,rfl⟩;simp only[go_sem,pJ];rw[avZ (by simp only[go_sem,A,p]) g];simp only[go_sem,NR,n,ae,true_and];rw[a,k3];clear a K;obtain⟨K,a⟩:∃K,K=rW e9 5 (pc 225 3) R 1:=⟨_,rfl⟩;rw[<-a];have I:GT ((H.push (an [aj 0,aj 0,aj 0,aj 0,aj 0,aj 0,aR,.aA,aR,.aA] 0)).set H.ag (an (b7 s) 0)):=(r.push aa _).set aa _;have J:=I.set L (.bW (.map [(.agg (en s.2),.agg (cc s.1))]));simp only[go_sem,GX,GW,NS,d12,O,W,X,q,V,bX,S,U,lH,x,o,l,f,uM];rw[aqe (k1:=.agg (en s.2)) (v1:=.agg (cc s.1)) (by simp only[go_sem,B]) i h];simp only[go_sem,zq];refine(K9 t.1 ad _ ((J.push ff _).set aa _)).mono ?_;rintro _ _ ⟨rfl,rfl⟩;simp only[go_sem,x,true_and];rw[av0 (k1:=.agg (en s.2)) (v1:=.agg (cc s.1)) (by simp only[go_sem,B]) i h];simp only[go_sem,NR,al];rw[a,k3];clear a K;simp only[go_sem,GX,GW,d22,f];refine G _ _ (λu hu h7=>?_) ?_ (λy hy M=>?_) ?_
 .simp(disch:=omega)only[cX]
 .simp only[go_sem];rfl
 .have Y:¬H.ag=y:=aa;have Z:¬H.ag+1=y:=aa;have ab:¬m=y:=λe=>M e.symm
  simp only[go_sem,Y,Z,ab]
 .simp only[go_sem]
def XJ(s t:b9)(u:s.2.length<=6)(w:t.2.length<=6)(W:d6 (.agg (en s.2)) (.agg (en s.2))=some true)(Y:d6 (.agg (en t.2)) (.agg (en t.2))=some true)(X:d6 (.agg (en t.2)) (.agg (en s.2))=some false)
 (ap:aM 1000 s.1) (ar:aM 1000 t.1) (H:ah) (eK be:Nat) (c j:Cap) (Q:GT H) (O:H.get eK=an [.slice be 0 2 j] 0) (N:H.get be=an (b7 s++b7 t) 0) (a3:eK<H.ag) (a4:be<H.ag) (q:5<=H.ag):
 dm 225 [.slice eK 0 1 c] H λv a=>∃d b L,(d=[0,1]\/d=[1,0])/\v=.slice b 0 (af (gI s t d)) (.known 2)/\a.get b=an L 0/\L.length=20/\L.take (af (gI s t d)*10)=gO (gI s t d)/\H.ag<=b/\b<a.ag/\(∀y,y<H.ag->a.get y=H.get y):=by
 have Z:dO none 1 [.slice eK 0 1 c,aj 0]=some (.val (.ptr eK 0)):=cH ai;have A:di (.slice eK 0 1 c)=some (.val (aj 1)):=rfl;have B:di (.slice be 0 2 j)=some (.val (aj 2)):=rfl;have aw:aE .i64 ((0:Int)+1)=1:=rfl;have z:decide ((0:Int)<1)=true:=rfl;have d11:decide ((1:Int)<1)=false:=rfl;have n1:¬H.ag=eK:=aa;have n2:¬H.ag=be:=aa;refine bg aoh ?_;simp only[go_sem,d225,acK,acJ,A];refine ug 2 ?_;rw[k3];obtain⟨R,o⟩:∃R:b5,R=hD 0 (gy (bK (pc 225 15) (gC [iC.tmp 2] λv a=>∃d b L,(d=[0,1]\/d=[1,0])/\v=.slice b 0 (af (gI s t d)) (.known 2)/\a.get b=an L 0/\L.length=20/\L.take (af (gI s t d)*10)=gO (gI s t d)/\H.ag<=b/\b<a.ag/\(∀y,y<H.ag->a.get y=H.get y))) (gC [iC.tmp 2] λv a=>∃d b L,(d=[0,1]\/d=[1,0])/\v=.slice b 0 (af (gI s t d)) (.known 2)/\a.get b=an L 0/\L.length=20/\L.take (af (gI s t d)*10)=gO (gI s t d)/\H.ag<=b/\b<a.ag/\(∀y,y<H.ag->a.get y=H.get y))):=⟨_,rfl⟩;rw[<-o];obtain⟨K,l⟩:∃K,K=rW e9 5 (pc 225 7) R 1:=⟨_,rfl⟩;rw[<-l];simp only[go_sem,NV,NU,acM,z,Z,n1,O,B];refine XG s t u w W Y X ap ar H.ag be j _ _ _ (Q.push q _) ?_ ?_ ?_ q ?_ ?_ ?_ ?_ ?_ ?_
 iterate 2 simp only[go_sem,n2,N]
 .simp only[go_sem];omega
 .simp only[go_sem];omega
 iterate 4 simp only[go_sem]
 intro h a g k i r;have E:rd 3 h=.map H.ag:=by rw[g 3 ai ai];simp only[go_sem]
 have a2:rd 12 h=.slice eK 0 1 c:=by rw[g 12 ai ai];simp only[go_sem]
 have C:rd 13 h=aj 1:=by rw[g 13 ai ai];simp only[go_sem]
 have D:rd 14 h=aj 0:=by rw[g 14 ai ai];simp only[go_sem]
 have T:∀y,y<H.ag->a.get y=H.get y:=λy m=>by rw[i y ff aa,ah.bl,ao aa]
 have a5:a.ag=H.ag+3:=by rw[r];simp only[go_sem]
 clear g i r;simp only[go_sem,acL,D,aw];rw[l,k3];clear l K;simp only[go_sem,NV,NU,C,d11,o];have S:wA [.map H.ag] a=some (aj 2):=by show aq (a.j9 H.ag) (λf=>some (V.int .i64 (.ofNat (c_ f))))=_;rw[zC k];rfl
 have p:l_ 112 [aj 0,aj 0,aj 0,aj 0,aj 0,aj 0,aR,.aA,aR,.aA] [aj 0,aj 2]=some (.new (rep [aj 0,aj 0,aj 0,aj 0,aj 0,aj 0,aR,.aA,aR,.aA] 2) (.slice 0 2)):=So (n:=2) ai;obtain⟨e,n⟩:∃e:au,e=rep [aj 0,aj 0,aj 0,aj 0,aj 0,aj 0,aR,.aA,aR,.aA] 2:=⟨_,rfl⟩;have J:e.length=20:=by rw[n,EH];rfl
 rw[<-n]at p;have x:¬a.ag=H.ag:=aa;have U:BL [.map H.ag] (a.push (an e 0))=some (.ptr (a.ag+1) 0,(a.push (an e 0)).push (.bW (.iter H.ag 2 [1,0] aN 2))):=by show aq ((a.push (an e 0)).j9 H.ag) (λf=>some (V.ptr (a.push (an e 0)).ag 0,(a.push (an e 0)).push (.bW (.iter H.ag (c_ f) (upto (c_ f)) aN (c_ f)))))=_;rw[zC (es:=[qo s,qo t]) (by rw[ah.bl,ao x,k])];rfl
 simp only[go_sem,acI,acH,E,S,p,U];refine XH s t u w H.ag H.ag (a.ag+1) a.ag (aJ _) aa aa _ _ _ e ?_ ?_ ?_ ?_ ?_ J ?_ ?_
 iterate 2 simp only[go_sem]
 .have m2:¬a.ag+1=H.ag:=aa;simp only[go_sem,x,m2,k]
 .simp only[go_sem]
 .have ac:¬a.ag+1=a.ag:=aa;simp only[go_sem,ac]
 .simp only[go_sem];omega
 intro a0 H2 d L P F G I M i a6;simp only[go_sem,acG,F];refine⟨d,a.ag,L,P,rfl,G,I,M,aa,aa,λy m=>?_⟩;have ad:¬a.ag=y:=aa;have ae:¬a.ag+1=y:=aa;rw[i y m];simp only[go_sem,ad,ae];exact T y m
def CH(b:Nat)(d:aF)(H a:ah):Prop:=∃c,a.get b=an c 0/\c.length=20/\c.take (af d*10)=gO d/\(∀y,y≠b->a.get y=H.get y)/\a.ag=H.ag
def auD(s:b9)(H:ah)(b:Nat)(c:Cap)(L:au)(f:H.get b=an L 0)(d:L.length=20)(e:L.take 10=gO [s]):
 dm 274 [.slice b 0 1 c,.func 275 [] []] H λ_ a=>CH b [s] H a:=
 TZ _ 1 (.inl rfl) rfl H _ ((auC _ rfl H).mono λ_ a h=>by rw[h];exact⟨L,f,d,e,λ_ _=>rfl,rfl⟩)
def xN(s t:b9):gO [s,t]=b7 s++b7 t:=by simp[gO]
def auE(s t:b9)(i:s.2.length<=6)(j:t.2.length<=6)(ss:s.2.sum<=24)(st:t.2.sum<=24)(m:ord (fY s.2) (fY t.2)=1)(n:ord (fY t.2) (fY s.2)= -1)(l:aF)(hl:l=[s,t]\/l=[t,s])(H:ah)(b:Nat)(c:Cap)(L:au)(a:H.get b=an L 0)(o:L.length=20)(g:L.take 20=gO l):
 dm 274 [.slice b 0 2 c,.func 275 [] []] H λ_ f=>CH b [s,t] H f:=by
 rw[dr aa]at g;have d:af (gO [s,t])=20:=by rw[xN,bw,nv i,nv j]
 refine TZ _ 2 (.inr rfl) rfl H _ ?_;rcases hl with rfl|rfl
 .rw[g,xN]at a;refine(TY s t i j ss st H b c a).mono λ_ f h=>?_
  rw[m,ao ai]at h;rw[h];exact⟨_,a,by rw[<-xN];exact d,by rw[<-xN];exact dr (by rw[d];exact aJ 20),λ_ _=>rfl,rfl⟩
 .rw[g,xN]at a;refine(TY t s j i st ss H b c a).mono λ_ f h=>?_
  rw[n,ay ai]at h;rw[h];refine⟨_,by rw[ah.aT,ay rfl],by rw[<-xN];exact d,by rw[<-xN];exact dr (by rw[d];exact aJ 20),λy k=>?_,rfl⟩;rw[ah.aT,ao (λe=>k e.symm),ah.aT,ao (λe=>k e.symm)]
inductive nk (H:ah) (N n:Nat):List b9->List V->Prop
 |nil:nk H N n [] []
 |snoc {l:List b9}{cs:List V}{t:b9}{e:Nat} (h:nk H N n l cs) (he:N<=e/\e<H.ag) (hl:t.2.length=n) (hg:H.get e=.cells (bL t.2) 0):nk H N n (l++[t]) (cs++[.str (aO t.1),.slice e 0 n (.known n)])
def nk.keep{H':ah}(h:nk b a d k c)(j:b.ag<=H'.ag)(g:∀y c,a<=y->y<b.ag->b.get y=an c 0->H'.get y=an c 0):nk H' a d k c:=by
 induction h with
 |nil=>exact .nil
 |snoc h e hl f i=>exact .snoc i ⟨e.1,aa⟩ hl (g _ _ e.1 e.2 f)
def nk.len(h:nk b a d k c):af c=af k*2:=by
 induction h with
 |nil=>rfl
 |snoc h f hl g e=>simp only[bw,e,dZ,p5];omega
variable{I:ah}
def nk.akL(i:0<d)(e:∀y,a<=y->I.get y=.none)(h:nk b a d k c):dn b I c (lQ k):=by
 induction h with
 |nil=>exact .nil
 |snoc h f hl g j=>rw[Fx];refine Q2 j (.f2 .mm ?_);unfold bf;rw[hl];refine .row (m:=d) (cs:=bL _) ?_ i (e _ f.1) (dn.refl _);rw[fO g,dQ,je (by rw[jz,hl])]
def P_:∀(l:aF) (i:Nat),(∀t∈l,t.2.length<=6)->(gO l).drop (i*10)=gO (l.drop i)
 |[],i,_=>by simp[gO]
 |t::l,0,_=>aI
 |t::l,i+1,h=>by rw[List.drop_succ_cons,<-P_ l i λu a=>h u (by simp[a]),gO,qR,i_,List.drop_append,nv (h t aI),mR (by rw[nv (h t aI)];omega),fS,Nat.add_sub_cancel_left]
def Qa{i:Nat}(h:c.take (af k*10)=gO k)(e:k[i]? =some N)(hl:∀t∈k,t.2.length<=6):cW (eH c (i*10)) 10=some (b7 N):=by
 obtain⟨hi,rfl⟩:=jo.1 e;have a:=P_ k i hl;rw[<-h,mQ hi,gO,List.drop_take]at a;have d:=nv (hl k[i] (s5 hi));have b:b7 k[i]=(c.drop (i*10)).take 10:=by have:=congrArg (List.take 10) a;rw[List.take_take,p7 aa,s6 d]at this;exact this.symm
 rw[l8,fB,<-b,ay];have:=congrArg af b;rw[e8,d]at this;omega
def ajq{n:Nat}{cs AK:au}{es:av}(g:b.get a=an cs 0)(o:af cs=n)(l:b.get d=an (en es++AK) 0)(hl:af es=n)(p:n<=6)(i:s (put j x (aj n)) (b.set a (an (bL es) 0))):
 gW x s j (oP 1 [.slice a 0 n (.known n),.slice d 0 6 (.known 6)] b):=by
 have k:ej 6 n=n:=by rw[Bu];omega
 have f:oP 1 [.slice a 0 n (.known n),.slice d 0 6 (.known 6)] b=some (aj n,b.set a (an (bL es) 0)):=by
  show aq (some 6) (λm=>aq (eu b 1 (ej m n) (.slice d 0 6 (.known 6))) λc=>aq (b.fe a 0 c) λb=>some (V.int .i64 (.ofNat (ej m n)),b))=_;show aq (eu b 1 (ej 6 n) (.slice d 0 6 (.known 6))) (λc=>aq (b.fe a 0 c) λb=>some (V.int .i64 (.ofNat (ej 6 n)),b))=_;rw[k];have h:eu b 1 n (.slice d 0 6 (.known 6))=some (bL es):=by show b.dz d 0 (n*1)=_;rw[fO l,dQ,fB,eD,en,gX,ay (by rw[bw,jz];omega),s6 (by rw[jz,hl])]
  rw[h];show aq (b.fe a 0 (bL es)) _=_;unfold ah.fe;rw[g];show aq (aX (dI (bL es)) (aq (dj (bL es) cs 0) λe=>some (b.set a (an e 0)))) _=_;rw[Ay,x4 (by rw[jz];omega)];rfl
 rw[f];exact i
def Vk(n:Nat)(a:aF)(M b T P:Nat)(c:Cap)(L:au)(e:Fr)(f:ah)(k:Nat)(F:Fr)(H:ah):Prop:=∃(i:Nat) (C d:au),k=af a-i/\i<=af a/\(∀t,t<7->rd t F=rd t e)/\rd 33 F=.slice b 0 (af a) c/\rd 34 F=aj (af a)/\rd 35 F=aj i/\
 H.get T=an C 0/\C.length=af a*2/\C.take (i*2)=d/\nk H M n (a.take i) d/\(∀y,y<M->y≠T->H.get y=f.get y)/\M<=H.ag
def awL(n:Nat)(hn:0<n/\n<=6)(d:aF)(hl:∀t∈d,t.2.length=n)(hq:∀t∈d,aM 1000 t.1)(ls:af d<=1000)(b T P:Nat)(c:Cap)(L:au)(o:au)(F:Fr)(H:ah)(R:b5)
 (f0:rd 0 F=aj n) (f6:rd 6 F=.ptr P 0) (ac:rd 33 F=.slice b 0 (af d) c) (ad:rd 34 F=aj (af d)) (ae:rd 35 F=aj 0)
 (ar:H.get b=an L 0) (a0:L.take (af d*10)=gO d) (ap:H.get T=an o 0) (aw:o.length=af d*2) (am:H.get P=an [aj n,.slice T 0 (af d) (.known (af d))] 0) (hg:GT H) (hb:b<H.ag) (hT:T<H.ag) (hP:P<H.ag) (ci:5<=T) (a6:b≠T) (a2:P≠T)
 (hR:∀D g f,(∀t,t<7->rd t D=rd t F)->nk g H.ag n d f->g.get T=an f 0->(∀y,y<H.ag->y≠T->g.get y=H.get y)->H.ag<=g.ag->R (.exit 0) D g):
 bK (.loop (pc 202 3)) R F H:=by
 refine b8 (Vk n d H.ag b T P c L F H) (af d) ⟨0,o,[],rfl,cj _,λ_ _=>rfl,ac,ad,ae,ap,aw,aI,.nil,λ_ _ _=>rfl,aJ _⟩ ?_;rintro k E a ⟨i,C,f,rfl,hi,m,G,p,q,Q,ch,r,v,j,bi⟩;have X:rd 0 E=aj n:=by rw[m 0 ai];exact f0
 have Y:rd 6 E=.ptr P 0:=by rw[m 6 ai];exact f6
 have kb:a.get b=an L 0:=by rw[j b hb a6,ar]
 have O:=(j P hP a2).trans am;have a8:GT a:=hg.keep λy x=>j y aa aa
 rw[ach];by_cases ba:i<af d
 .obtain⟨u,w⟩:∃u,d[i]? =some u:=⟨d[i],c4 ba⟩;have M:=fL w;have K:=hl u M;have I:=nv (t:=u) aa;have bj:=BB (e:=u.2) aa;have Z:=Qa a0 w (λt l=>by have:=hl t l;omega);have s:decide ((i:Int)<((af d:Nat):Int))=true:=b3 aa;have w1:aE .i64 ((i:Int)+1)=((i+1:Nat):Int):=by rw[aK _ aa];rfl
  have b0:dO none 10 [.slice b 0 (af d) c,aj i]=some (.val (.ptr b (i*10))):=by rw[cH aa];simp
  have b1:dO none 2 [.slice T 0 (af d) (.known (af d)),aj i]=some (.val (.ptr T (i*2))):=by rw[cH aa];simp
  have k1:bM (.agg (b7 u))=true:=rfl;have k2:cellsOf (.agg (b7 u))=b7 u:=rfl;have ca:c_ (b7 u)=10:=by rw[iw,I]
  have eB:dj (b7 u) uj 0=some (b7 u):=x4 I;unfold uj at eB;have sx:cW (eH (b7 u) 6) 4=some (cc u.1):=Bj bj rfl;have bd:l_ 8 [aj 0] [aj n,aj n]=some (.new (rep [aj 0] n) (.slice n n)):=by rw[iG aa];simp
  have bs:slice3 (ou 6 1) false false false [.ptr a.ag 0]=some (.val (.slice a.ag 0 6 (.known 6))):=rfl;have J:=BJ u.1 (hq u M) ai;unfold cZ at J;have n1:¬a.ag=b:=aa;have n2:¬a.ag=T:=aa;have S:¬a.ag=P:=aa;have U:¬a.ag+1=a.ag:=aa;have cd:¬a.ag+1=T:=aa;have W:¬a.ag+1=P:=aa;have c0:¬a.ag=a.ag+1:=aa;simp only[go_sem,NN,acg,X,G,p,q,s,b0,kb,Z,k1,k2,ca,eB,bd,bs,uM];refine ajq (n:=n) (cs:=rep [aj 0] n) (AK:=cc u.1) (es:=u.2) ?_ ?_ ?_ K hn.2 ?_
  .simp only[go_sem]
  .rw[EH];simp
  .simp only[go_sem,U];rfl
  simp only[go_sem,Y,S,U,W,O,sx];have a9:GT ((((a.push (an [aj 0,aj 0,aj 0,aj 0,aj 0,aj 0,aR,.aA,aR,.aA] 0)).set a.ag (an (b7 u) 0)).push (an (rep [aj 0] n) 0)).set (a.ag+1) (an (bL u.2) 0)):=by repeat' first|exact a8|omega|(simp only[go_sem];omega)|refine GT.set ?_ ?_ _|refine GT.push ?_ ?_ _
  refine bq J a9 ?_;have bv:dj [.str (aO u.1),.slice (a.ag+1) 0 n (.known n)] C (i*2)=some (C.take (i*2)++[.str (aO u.1),.slice (a.ag+1) 0 n (.known n)]++C.drop (i*2+2)):=by rw[mH,ay (by rw[dZ,iA];omega)];rfl
  have a4:dI [V.str (aO u.1),.slice (a.ag+1) 0 n (.known n)]=true:=rfl;simp only[go_sem,n2,S,cd,W,O,Q,b1,bv,a4,true_and];simp only[go_sem,acf,q,w1];have t1:¬T=a.ag+1:=aa;have bb:∀y f,H.ag<=y->y<a.ag->a.get y=an f 0->(((((a.push (an [aj 0,aj 0,aj 0,aj 0,aj 0,aj 0,aR,.aA,aR,.aA] 0)).set a.ag (an (b7 u) 0)).push (an (rep [aj 0] n) 0)).set (a.ag+1) (an (bL u.2) 0)).set T (an (C.take (i*2)++[.str (aO u.1),.slice (a.ag+1) 0 n (.known n)]++C.drop (i*2+2)) 0)).get y=an f 0:=λy f x co h=>by have z:¬a.ag=y:=aa;have A:¬a.ag+1=y:=aa;have B:¬T=y:=aa;simp only[go_sem,z,A,B,h]
  refine⟨af d-(i+1),aa,i+1,C.take (i*2)++[.str (aO u.1),.slice (a.ag+1) 0 n (.known n)]++C.drop (i*2+2),f++[.str (aO u.1),.slice (a.ag+1) 0 n (.known n)],rfl,aa,λt l=>?_,?_,?_,?_,?_,?_,?_,?_,λy x N=>?_,?_⟩
  .simp(disch:=omega)only[cX];exact m t l
  iterate 4 simp only[go_sem,G,p]
  .simp only[bw,e8,lB,dZ,p5];omega
  .have bc:af (C.take (i*2)++[V.str (aO u.1),.slice (a.ag+1) 0 n (.known n)])=(i+1)*2:=by simp only[bw,e8,dZ,p5];omega
   rw[<-bc,vL,r]
  .rw[Fc w];refine .snoc (v.keep ff bb) ⟨aa,by simp only[go_sem];omega⟩ K ?_;simp only[go_sem,t1]
  .have z:¬a.ag=y:=aa;have A:¬a.ag+1=y:=aa;have B:¬T=y:=λe=>N e.symm
   simp only[go_sem,z,A,B];exact j y x N
  .simp only[go_sem];omega
 .have a':i=af d:=aa;subst a';have s:decide (((af d:Nat):Int)<((af d:Nat):Int))=false:=bP aa;rw[dr aa]at r;rw[dr (aJ _)]at v;subst r;simp only[go_sem,NN,p,q,s];exact hR _ _ C (λt l=>by simp(disch:=omega)only[cX];exact m t l) v Q j bi
def awN(n:Nat)(W:0<n/\n<=6)(d:aF)(hl:∀t∈d,t.2.length=n)(hs:∀t∈d,t.2.sum<=24)(Z:∀t∈d,aM 1000 t.1)(C:0<af d/\af d<=1000)(H:ah)(b:Nat)(c:Cap)(L:au)(S:GT H)(P:H.get b=an L 0)(a9:b<H.ag)(a8:5<=b)
 (ad:∀i,i.get b=an L 0->dm 274 [.slice b 0 (af d) c,.func 275 [] []] i λ_ a=>CH b d i a):
 dm 202 [aj n,.slice b 0 (af d) c] H λv a=>∃T M f,v=.aH [.agg [aj n,.slice T 0 (af d) (.known (af d))],aj 0]/\nk a M n d f/\a.get T=an f 0/\H.ag<=T/\H.ag<=M/\(∀y,y<H.ag->y≠b->a.get y=H.get y)/\H.ag<=a.ag/\T<a.ag:=by
 obtain⟨u,z⟩:∃u,d[0]? =some u:=⟨d[0],c4 C.1⟩;have A:=fL z;have a':=hl u A;have am:=hs u A;have g:di (.slice b 0 (af d) c)=some (.val (aj (af d))):=rfl;have G:decide ((af d:Int)>4096)=false:=bP aa;have I:decide ((af d:Int)>0)=true:=b3 aa;have ap:dO none 10 [.slice b 0 (af d) c,aj 0]=some (.val (.ptr b 0)):=cH aa;have ac:slice3 (ou 6 1) false false false [.ptr b 0]=some (.val (.slice b 0 6 (.known 6))):=rfl;have Q:¬H.ag=b:=aa;refine bg aoc ?_;simp only[go_sem,d202,aco,acn,g,G];refine(ad _ (by simp only[go_sem,Q,P])).mono ?_;rintro v0 a ⟨F,B,k2,bX,m,ar⟩;have U:GT a:=(S.push aa (an [aj 0,.aA] 0)).keep λy e=>m y aa
 have a0:a.get H.ag=an [aj 0,.aA] 0:=by rw[m _ aa];simp only[go_sem]
 have aw:∀y,y<H.ag->y≠b->a.get y=H.get y:=λy e l=>by rw[m y l,ah.bl,ao aa]
 have bc:a.ag=H.ag+1:=by rw[ar];simp only[go_sem]
 simp only[go_sem,acm,ack,g,I,ap,ac];have R:bS a (ah.zero a.ag) (.slice b 0 6 (.known 6)) (bf (fY u.2)):=by
  have j:=Qa (i:=0) bX z (λt ht=>by have:=hl t ht;omega);have Y:af (bL (fY u.2))=6:=by rw[jz,wL aa]
  unfold bf;rw[wL aa];refine .row (m:=6) (cs:=bL (fY u.2)) ?_ ai (ah.hL _ _) (dn.refl _);rw[fO B,dQ];rw[j4,dQ,fB]at j;rw[fB,ay aa];rw[ay aa]at j;have q:=congrArg (λx=>x.map (List.take 6)) j;simp only[Option.map_some,List.take_take,Nat.reduceLeDiff,p7]at q;rw[q,b7,Jo,s6 Y]
 refine(yV (R:=λv=>v=cY) (.f1 R) ((I0 (fY u.2) (by rw[wL aa];omega) (by rw[Jm];exact am) _).mono ?_)).mono ?_
 .rintro _ _ ⟨rfl,rfl⟩;exact⟨_,λb=>.bool _,rfl⟩
 rintro _ E ⟨rfl,r⟩;rw[r];clear r E;have V:l_ 40 [.str [],.aA] [aj (af d),aj (af d)]=some (.new (rep [.str [],.aA] (af d)) (.slice (af d) (af d))):=by rw[iG aa];simp
 simp only[go_sem,g,jQ,V];have w:5<=a.ag:=aa;simp only[go_sem,acj,g];have n1:¬a.ag=b:=aa;have n2:¬a.ag+1=b:=aa;have a3:¬a.ag+1=a.ag:=aa;have a4:¬a.ag=H.ag:=aa;have D:¬a.ag+1=H.ag:=aa;refine awL n W d hl Z C.2 b a.ag (a.ag+1) c F (rep [.str [],.aA] (af d)) _ _ _ ?_ ?_ ?_ ?_ ?_ ?_ bX ?_ ?_ ?_ ?_ ?_ ?_ ?_ w aa aa ?_
 iterate 7 simp only[go_sem,n1,n2,B,a3]
 .rw[EH];rfl
 .simp only[go_sem]
 .exact((U.push w _).push ff _).set aa _
 .simp only[go_sem];omega
 .simp only[go_sem];omega
 .simp only[go_sem];omega
 intro o p f s al hT k X;simp only[go_sem]at X;have J:rd 4 o=.ptr H.ag 0:=by rw[s 4 ai];simp only[go_sem]
 have K:rd 6 o=.ptr (a.ag+1) 0:=by rw[s 6 ai];simp only[go_sem]
 have N:p.get (a.ag+1)=an [aj n,.slice a.ag 0 (af d) (.known (af d))] 0:=by rw[k _ ff aa];simp only[go_sem]
 have O:p.get H.ag=an [aj 0,.aA] 0:=by rw[k _ ff aa];simp only[go_sem,a4,D,a0]
 have m1:¬a.ag+1=H.ag:=D;simp only[go_sem,aci,J,K,N,O];refine⟨a.ag,_,f,rfl,al.keep (aJ _) λy a7 e ba h=>?_,?_,aa,?_,λy e l=>?_,?_⟩
 .rw[ah.aT,ao (by simp only[go_sem]at e;omega)];exact h
 .rw[ao aa];exact hT
 .simp only[go_sem];omega
 .have q1:¬a.ag=y:=aa;have a6:¬a.ag+1=y:=aa;rw[ao aa,k y ff aa];simp only[go_sem,q1,a6];exact aw y e l
 .constructor<;>omega
end Go.Proofs.YtddhncjmaahodaaGreatDoor
