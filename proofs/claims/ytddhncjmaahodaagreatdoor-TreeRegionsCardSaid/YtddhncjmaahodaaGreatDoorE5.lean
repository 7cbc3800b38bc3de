/- The law TreeRegions of the package sosoptlaw40 holds: the given statement, whole. No conditions. -/
import Derived.Test.YtddhncjmaahodaaGreatDoorE4
import Derived.Below
import Derived.ProofKit
import Derived.Test.YtddhncjmaahodaaGreatDoorRows
import Derived.LaidMore
import Derived.OpenShut
import Derived.Stop.Joined
import Derived.Lib.LaidTab
import Derived.Carry
import Derived.ChangeSlices
import Derived.Deep.SlicePairs
import Derived.Handed
import Derived.RowKit
import Derived.Test.YtddhncjmaahodaaGreatDoorProg
import Derived.KernelRfl
import GoSem.ClaimDataLaid
import GoSem.ClaimGoes
import Derived.Test.YtddhncjmaahodaaGreatDoorCards
import Derived.SevenTiedAt
import Derived.Test.YtddhncjmaahodaaGreatDoorTie
set_option linter.all false
noncomputable section
open Array renaming ext'→rI,getElem?_eq_some_iff→uX
open Bool renaming and_eq_true→cz,false_eq_true→kj,not_false→gS,not_true→dZ
open Go.Proofs.Tryz renaming prog→eW
open Int renaming toNat_natCast→bN
open List renaming append_assoc→eG,append_nil→fA,cons_append→fm,eq_nil_of_length_eq_zero→nI,getD_eq_getElem?_getD→c_,getElem?_append_left→k3,getElem?_append_right→pI,getElem?_drop→pJ,getElem?_eq_getElem→cH,getElem?_eq_some_iff→fo,getElem?_map→qE,getElem_mem→u_,length_append→bt,length_cons→di,length_map→lQ,length_nil→lR,length_pos_iff→vb,length_take→ep,length→jD,mem_append→gU,mem_cons→gL,mem_map→nc,mem_of_getElem?→er,mem_of_mem_take→ve,mem_singleton→dH,range→lS,take_of_length_le→cq
open Nat renaming add_zero→cO,ble→b8,le_refl→aR,lt_of_lt_of_le→ei,lt_or_ge→k4,lt_trans→oG,min_eq_left→oH,mul_div_cancel→td,mul_one→dQ,not_lt_zero→pN,succ_pos→nh,zero_add→fB,zero_le→ck
namespace Go.Proofs.YtddhncjmaahodaaGreatDoor
open Go.aE Go.aV
def kU(n:Nat):Nat→List fO→List (List aI)
 |_,[]=>[]
 |j,s::l=>ri n j s++sK n j s++kU n (j+1) l
theorem abQ(n:Nat)(s:fO):∀(j:Nat) (l:List fO),kU n j (l++[s])=kU n j l++(ri n (j+l.length) s++sK n (j+l.length) s)
 |j,[]=>by simp[kU]
 |j,a::l=>by
  simp only[fm,kU,abQ n s (j+1) l,di,eG];rw[(aa:j+1+l.length=j+(l.length+1))]
theorem abL(n i:Nat)(s:fO):(ri n i s).length≤1:=by unfold ri;split<;>simp
theorem ape(n i:Nat)(s:fO):(sK n i s).length≤1:=by unfold sK;split<;>simp
theorem J5(n:Nat):∀(j:Nat) (l:List fO),(kU n j l).length≤2*l.length
 |_,[]=>aR 0
 |j,s::l=>by
  have:=J5 n (j+1) l;have:=abL n j s;have:=ape n j s;simp only[kU,bt,di];omega
variable{a:Nat}{c:ag}{g:Nat}{P:List (List aI)}
theorem iY.len{v:V}(h:iY a c 2 v (eZ g P)):eC v=some (.val (ai (P.length:Int))):=by
 rcases h with⟨f,h⟩|⟨d,e,_⟩
 ·rw[h.len aj,qi,td _ aj]
 ·have:=congrArg jD d;rw[qi]at this;have b:P.length=0:=by rw[lR]at this;omega
  rw[e,b];rfl
theorem iY.dr{H:ag}{v:V}(h:iY a H 2 v (eZ g P)):cr H (ag.zero H.next) v (gz g P):=by
 rcases h with⟨e,h⟩|⟨c,d,_⟩
 ·exact I1 h (fun _ _ _=>jJ)
 ·have:=congrArg jD c;rw[qi]at this;have b:P=[]:=nI (by rw[lR]at this;omega);rw[d,b];exact .e4 _ _ _
def Li(n:Nat)(c:List aI)(b:List (List aI))(a:V)(l:List fO)(k:Nat)(F:Fr)(H:ag):Prop:=∃(i:Nat) (v:V),k=l.length-i∧i≤l.length∧rd 2 F=.ptr 5 0∧rd 4 F=.ptr 6 0∧rd 14 F=jW l∧rd 15 F=ai (l.length:Int)∧rd 16 F=ai (i:Int)∧
 H.get 5=.cells [ai (n:Int),ai (n:Int),bV c,v,a] 0∧H.get 6=.cells [ai 0,ai 0,.ak,.ak,.ak] 0∧iY 7 H 2 v (eZ n (b++kU n 0 (l.take i)))∧8≤H.next
theorem apX(n:Nat)(A:n=1∨n=2)(g:List aI)(f:List (List aI))(bi:f.length≤2)(b:V)(E:bP b=true∧cellsOf b=[b]∧V.one b=true)(l:List fO)(hl:l.length=n)(G:∀s∈l,nN 90 s)(F:Fr)(H:ag)(R:X→Fr→ag→Prop)(k:Nat)(Y:Li n g f b l k F H)
 (Z:∀j h v,rd 2 j=.ptr 5 0→rd 4 j=.ptr 6 0→h.get 5=.cells [ai (n:Int),ai (n:Int),bV g,v,b] 0→h.get 6=.cells [ai 0,ai 0,.ak,.ak,.ak] 0→iY 7 h 2 v (eZ n (f++kU n 0 l))→R (.exit 0) j h):
 bT (.loop Fb) R F H:=by
 refine bW (Li n g f b l) k Y ?_;rintro m ba a ⟨i,v,rfl,be,d,C,p,q,r,t,D,u,bv⟩;unfold Fb;by_cases ap:i<l.length
 ·obtain⟨s,B⟩:∃s,l[i]? =some s:=⟨l[i],cH ap⟩;have I:=er B;have W:=o9 uK B;have w:decide ((i:Int)<(l.length:Int))=true:=bw aa;have w1:aG .i64 ((i:Int)+1)=((i+1:Nat):Int):=by rw[aQ _ aa];rfl
  have al:=mP (f:=fS) (k:=10) (l:=l) (i:=(i:Int)) (ik:=.i64) aa;have aw:=J5 n 0 (l.take i);rw[ep]at aw;have a0:=qi n (f++kU n 0 (l.take i));rw[bt]at a0;have N:bP (.agg (fS s))=true:=rfl;have O:cellsOf (.agg (fS s))=fS s:=rfl;have P:cP (fS s)=10:=rfl;have Q:dx (fS s) [aq,.ak,aq,.ak,aq,.ak,aq,.ak,aq,aq] 0=some (fS s):=rfl;have S:de (fS s)=true:=rfl;have J:=arD n i A aa;unfold jx at J;have c2:∀o,de (kC n o)=true:=fun _=>rfl
  have a5:¬a.next=5:=aa
  have cb:¬a.next=6:=aa
  have ca:¬a.next+1=5:=aa
  have K:¬a.next+1=a.next:=aa
  unfold jW at p;simp only[go_sem,Fa,aeL,acf,p,q,r,w,al,bN,W,N,O,P,Q,S];simp only[go_sem,acg,d,a5,t];refine use J ?_;simp only[go_sem,kC];have z:∀y,y<a.next→((((a.push (.cells [aq,.ak,aq,.ak,aq,.ak,aq,.ak,aq,aq] 0)).set a.next (.cells (fS s) 0)).push (.cells [ai 0,.ak] 0)).set (a.next+1) (.cells [ai (n:Int),bV [(1,U n i)]] 0)).get y=a.get y:=fun y hy=>by
   have q1:¬a.next=y:=aa
   have a7:¬a.next+1=y:=aa
   simp only[go_sem,q1,a7]
  have ab:=u.low aa z (by simp only[go_sem];omega);refine apV n A i aa s (G s I) g b a.next (a.next+1) 7 v _ _ _ _ _ ?_ ?_ ?_ (by rw[z 5 aa,t]) ?_ ?_ ab (by simp only[go_sem];omega) aj aa (by simp only[go_sem];omega) (by simp only[go_sem];omega) (by simp only[go_sem];omega) E ?_
  iterate 4 simp only[go_sem,d,K]
  ·simp only[go_sem];rfl
  intro bb M v2 c ac a3 x bo ar;simp only[go_sem]at ar;have a4:M.get 6=.cells [ai 0,ai 0,.ak,.ak,.ak] 0:=x 6 _ (by simp only[go_sem];omega) aj (by rw[z 6 aa,D]);have ll:=abL n i s;have b1:=qi n (ri n i s);refine apW n A i aa s (G s I) g b a.next (a.next+1) 7 v2 _ _ _ _ ?_ ?_ ?_ a3 ?_ ?_ ac aa aj ?_ aa aa aa E ?_
  ·rw[c 2 aj];simp only[go_sem,d]
  ·rw[c 7 aj];simp only[go_sem]
  ·rw[c 8 aj];simp only[go_sem]
  ·refine x _ _ (by simp only[go_sem];omega) aa ?_;simp only[go_sem,K]
  ·refine x _ _ (by simp only[go_sem];omega) aa ?_;simp only[go_sem];rfl
  ·rw[bt];omega
  intro L H3 v3 e ad a1 ae bs b0;have a2:=ae 6 _ aa aj a4;have T:rd 16 L=ai (i:Int):=by rw[e 16 aj,c 16 aj];simp only[go_sem,r]
  simp only[go_sem,E_,T,w1];refine⟨l.length-(i+1),aa,i+1,v3,rfl,aa,?_,?_,?_,?_,?_,a1,a2,?_,aa⟩
  ·simp only[go_sem];rw[e 2 aj,c 2 aj];simp only[go_sem,d]
  ·simp only[go_sem];rw[e 4 aj,c 4 aj];simp only[go_sem,C]
  ·simp only[go_sem];rw[e 14 aj,c 14 aj];simp only[go_sem,p];rfl
  ·simp only[go_sem];rw[e 15 aj,c 15 aj];simp only[go_sem,q]
  ·simp only[go_sem]
  ·rw[yZ B,abQ,ep,fB,oH aa,←eG,←eG,yE,yE];exact ad
 ·have am:i=l.length:=aa;subst am;have w:decide ((l.length:Int)<(l.length:Int))=false:=bp aa;rw[cq (aR _)]at u;simp only[go_sem,Fa,q,r,w];refine Z _ _ v ?_ ?_ t D u
  iterate 2 simp only[go_sem,d,C]
theorem apv(p:iO)(h:p.aM)(l:List fO)(P:l.length=p.n)(W:∀s∈l,nN 90 s):bA 18 [mW p,jW l] (.aK [mW ⟨p.n,p.obj,p.is++kU p.n 0 l,p.es⟩,cC]):=by
 have S:=h.n;have Z:=h.li;have a0:=J5 p.n 0 l;obtain⟨a,k⟩:∃a,a=gz p.n p.es:=⟨_,rfl⟩;have N:bP a=true∧cellsOf a=[a]∧V.one a=true:=by rw[k];exact⟨rfl,rfl,rfl⟩
 obtain⟨I,J,u⟩:=N;have ok:∀t,bP (bV t)=true∧cellsOf (bV t)=[bV t]∧V.one (bV t)=true:=fun _=>⟨rfl,rfl,rfl⟩
 obtain⟨a1,a2,ac⟩:=ok p.obj;refine e3 (.cons (vS p) (.cons (r_ l) .nil)) (bg BG ?_);unfold mW;rw[←k];simp only[go_sem,PC,Qt];obtain⟨b,d⟩:∃b,b=((((ag.zero 5).push (.cells [ai (p.n:Int),ai (p.n:Int),bV p.obj,gz p.n p.is,a] 0)).push (.cells [ai 0,ai 0,.ak,.ak,.ak] 0)).push (.cells [] 0)):=⟨_,rfl⟩;have x:b.get 5=.cells [ai (p.n:Int),ai (p.n:Int),bV p.obj,gz p.n p.is,a] 0:=by rw[d];simp only[go_sem]
 have y:b.get 6=.cells [ai 0,ai 0,.ak,.ak,.ak] 0:=by rw[d];simp only[go_sem]
 have bO:b.get 7=.cells [] 0:=by rw[d];simp only[go_sem]
 have aw:b.next=8:=by rw[d];simp only[go_sem]
 rw[←d];clear d;obtain⟨Q,z⟩:∃Q:X→Fr→ag→Prop,Q=(gl [gV.cell 4 true 5,gV.tmp 5] fun v1 q=>∃v,cr q (ag.zero q.next) v1 v∧bZ v∧v=V.aK [.agg [ai (p.n:Int),ai (p.n:Int),bV p.obj,gz p.n (p.is++kU p.n 0 l),a],cC]):=⟨_,rfl⟩
 rw[←z];have D:∀(f:Fr) (c:ag) (v:V),rd 1 f=jW l→rd 2 f=.ptr 5 0→rd 4 f=.ptr 6 0→c.get 5=.cells [ai (p.n:Int),ai (p.n:Int),bV p.obj,v,a] 0→c.get 6=.cells [ai 0,ai 0,.ak,.ak,.ak] 0→8≤c.next→iY 7 c 2 v (eZ p.n p.is)→bT Fc Q f c:=by
  intro f c v w K L g m T M;unfold jW at w;simp only[go_sem,Fc,w];refine apX p.n S p.obj p.is Z a ⟨I,J,u⟩ l P W _ _ _ l.length ⟨0,v,rfl,ck _,?_,?_,?_,?_,?_,g,m,?_,T⟩ ?_
  iterate 2 simp only[go_sem,K,L]
  ·simp only[go_sem];rfl
  ·simp only[go_sem]
  ·simp only[go_sem];rfl
  ·show iY 7 c 2 v (eZ p.n (p.is++[]));rw[fA];exact M
  intro am H3 v3 H r Y A i;have R:=i.len;obtain⟨E,F,o⟩:=i.bP;have G:decide ((16:Int)<((p.is++kU p.n 0 l).length:Int))=false:=bp (by rw[bt];omega);simp only[go_sem,Qs,H,r,Y,A,R,G,o,u,ac,gS,true_and];rw[z];simp only[go_sem,r];have O:bZ (V.aK [.agg [ai (p.n:Int),ai (p.n:Int),bV p.obj,gz p.n (p.is++kU p.n 0 l),a],cC]):=by
   rw[k];exact .aK (.cons (vS ⟨p.n,p.obj,p.is++kU p.n 0 l,p.es⟩) (.cons (.bool _) .nil))
  exact⟨_,.aK (.cons (.agg (.cons (.same _) (.cons (.same _) (.cons (.same _) (.cons (i.set A aj (.cells [ai (p.n:Int),ai (p.n:Int),bV p.obj,v3,a] 0)).dr (.cons (.same _) .nil)))))) (.cons (.same _) .nil)),O,rfl⟩
 by_cases j:p.is=[]
 ·have e:ga 2 32 [V.slice 7 0 0 (Cap.known 0),gz p.n p.is] b=some (.slice 7 0 0 (.known 0),b):=by rw[j];rfl
  rw[e];simp only[go_sem,x];refine D _ _ (.slice 7 0 0 (.known 0)) ?_ ?_ ?_ ?_ ?_ ?_ ?_
  iterate 5 simp only[go_sem,y]
  ·simp only[go_sem];omega
  ·refine .inr ⟨by rw[j];rfl,rfl,?_⟩;simp only[go_sem,bO]
 ·have U:0<p.is.length:=vb.2 j;refine tS (n:=p.is.length) (cs:=eZ p.n p.is) bO U (qi _ _) aj ⟨aa,aj⟩ fun v2 H4 B C a3=>?_
  have g:=(C 5 aa).trans x;have m:=(C 6 aa).trans y;obtain⟨E,F,o⟩:=B.bP;simp only[go_sem,g,E,F,o];refine D _ _ v2 ?_ ?_ ?_ ?_ ?_ ?_ (.inl ⟨_,B.set g _⟩)
  iterate 5 simp only[go_sem,m]
  ·simp only[go_sem];omega
theorem ad7(p:iO)(d:p.n=1∨p.n=2)(s:pU p.n 100 p.obj)(k:∀q∈p.is,pU p.n 100 q)(j:∀q∈p.es,pU p.n 100 q)(K:p.is.length≤1000)(J:p.es.length≤1000):bA 9 [mW p] (je p):=by
 have b:0<p.n∧p.n≤100:=aa;obtain⟨B,C,D⟩:=s;have t:=KZ p.obj p.n 100 b B C aj D;have u:=CY p.is p.n 100 b aj k aa;have v:=CY p.es p.n 100 b aj j aa;refine e3 (.cons (vS _) .nil) (bg mb ?_);simp only[go_sem,HZ,H9,mW];refine use (aa2 p.n d) ?_;have r:(sC p.n).length=p.n*1:=by rcases d with e|e<;>rw[e]<;>rfl
 simp only[go_sem,true_and];refine tS (n:=p.n) (cs:=sC p.n) ?_ b.1 r aj ⟨aa,aj⟩ fun w E f g F=>?_
 ·simp only[go_sem]
 obtain⟨i,A,rfl⟩:=f.slice aa;have a:=g 5 (aj:(5:Nat)<8);have c:=g 6 (aj:(6:Nat)<8);simp only[go_sem]at a c;simp only[go_sem,a,true_and];refine use t ?_;simp only[go_sem,a,true_and];refine use u ?_;simp only[go_sem,a,true_and];refine use v ?_;have x:∀l,bP (cK p.n l)=true:=fun _=>rfl
 have y:∀l,cellsOf (cK p.n l)=[cK p.n l]:=fun _=>rfl
 have cu:∀l,V.one (cK p.n l)=true:=fun _=>rfl
 have H:∀l,bP (eE l)=true:=fun _=>rfl
 have I:∀l,cellsOf (eE l)=[eE l]:=fun _=>rfl
 have z:∀l,V.one (eE l)=true:=fun _=>rfl
 simp only[go_sem,c,x,y,cu,z];obtain⟨m,h,G⟩:=(f.set c (.cells [V.slice i 0 A (Cap.grown 1),V.int .i64 (p.n:Int),eE p.obj,cK p.n p.is,cK p.n p.es] 0)).dr (H2:=ag.zero _) aj (fun _ _ _=>jJ) (dy.refl _);have o:m=p.n:=aa;rw[o]at h;exact⟨_,.agg (.cons h (.cons (.same _) (.cons (.same _) (.cons (.same _) (.cons (.same _) .nil))))),r8 p d,rfl⟩
def Nm:ah:=.aH [b9 25 13 1,af 13 25]
def Nn:ah:=.seq (.block 1 (an [af 15 13,ao 5 15] (an [af 16 0,af 17 5,aX 18 1 16 17,aC 19 18,af 20 1,af 21 5,aX 22 1 20 21,aC 23 22,bD 24 .neq 19 23] (bl 24 (aB [aP 4 aq]) .skip)))) Nm
def Ea:ah:=.seq (bl 14 .skip (.exit 0)) Nn
def No:ah:=an [cw 14 13 12] Ea
def Np:ah:=aB [aP 4 cC]
def Nq:ah:=.seq (an [af 11 0,aY 12 11,eL 13 (ai 0)] (.block 0 (.loop No))) Np
def Nr:ah:=bm [af 6 0,aY 7 6,af 8 1,aY 9 8,bD 10 .neq 7 9] 10 (aB [aP 4 aq]) Nq
def Nl:ah:=an [aP 4 aq] Nr
theorem akn:aZ Tryz.f117 117 Nl [.tmp 4]:=bh
theorem anL:oa 5 ov 66 [fk 1,fk 1] cC=true:=by kernel_rfl
theorem anM:oa 5 ov 66 [fk 2,fk 2] cC=true:=by kernel_rfl
theorem ap4(n:Nat)(a:n=1∨n=2):bA 66 [fk n,fk n] cC:=by
 rcases a with rfl|rfl
 ·exact qk pF anL
 ·exact qk pF anM
theorem ap3(e:List Nat)(p:e.length≤1000):bA 117 [cG e,cG e] cC:=by
 refine cT (.cons (oQ e) (.cons (oQ e) .nil)) (.bool _) (bg akn ?_);have j:eC (cG e)=some (.val (ai (e.length:Int))):=rfl;simp only[go_sem,Nl,Nr,Nq,j,decide_true,dZ];refine bW (fun k a h=>∃i:Nat,k=e.length-i∧i≤e.length∧rd 0 a=cG e∧rd 1 a=cG e∧rd 12 a=ai (e.length:Int)∧rd 13 a=ai (i:Int)) e.length ⟨0,rfl,ck _,?_,?_,?_,?_⟩ ?_
 iterate 3 simp only[go_sem]
 ·simp only[go_sem];rfl
 rintro k a h ⟨i,rfl,o,f,g,b,c⟩;unfold No;by_cases l:i<e.length
 ·have d:decide ((i:Int)<(e.length:Int))=true:=bw aa;have n:aG .i64 ((i:Int)+1)=((i+1:Nat):Int):=by rw[aQ _ aa];rfl
  have dX:=qb (l:=e) (i:=(i:Int)) (k:=.i64) aa;have m:=qg l;simp only[go_sem,Ea,Nn,f,g,b,c,d,dX,bN,m,decide_true,dZ];simp only[go_sem,Nm,c,n];refine⟨e.length-(i+1),aa,i+1,rfl,aa,?_,?_,?_,?_⟩
  iterate 4 simp only[go_sem,f,g,b]
 ·have d:decide ((i:Int)<(e.length:Int))=false:=bp aa;simp only[go_sem,Ea,Np,b,c,d]
theorem Kj(n:Nat)(p:List aI)(s:∀t∈p,t.2.length≤1000)(w:p.length≤1000000):bA 67 [g6 n p,g6 n p] cC:=by
 refine cT (.cons (tY n p) (.cons (tY n p) .nil)) (.bool _) (bg amj ?_);unfold g6 eJ;simp only[go_sem,Xn,Xt,Xs,decide_true,dZ];refine bW (fun k a b=>∃i:Nat,k=p.length-i∧i≤p.length∧rd 2 a=.ptr 5 0∧rd 3 a=.ptr 6 0∧rd 22 a=ai (p.length:Int)∧rd 23 a=ai (i:Int)∧b.get 5=.cells [ai (n:Int),eE p] 0∧b.get 6=.cells [ai (n:Int),eE p] 0) p.length ⟨0,rfl,ck _,?_,?_,?_,?_,?_,?_⟩ ?_
 iterate 3 simp only[go_sem]
 ·simp only[go_sem];rfl
 iterate 2 simp only[go_sem]
 rintro k a b ⟨i,rfl,v,g,h,c,d,j,l⟩;unfold Xq;by_cases r:i<p.length
 ·obtain⟨t,f⟩:∃t,p[i]? =some t:=⟨p[i],cH r⟩;have e:decide ((i:Int)<(p.length:Int))=true:=bw aa;have u:aG .i64 ((i:Int)+1)=((i+1:Nat):Int):=by rw[aQ _ aa];rfl
  have dX:=x_ (l:=p) (i:=(i:Int)) (k:=.i64) aa;have o:=K2 f;have m:eu (jC p) (i*2)=some (.str (bS t.1)):=by
   rw[iW,←cO (i*2),←pJ,K0,drop_cons f];rfl
  have q:=ap3 t.2 (s t (er f));simp only[go_sem,HQ,Xp,g,h,c,d,j,l,e,dX,bN,m,o,decide_true,dZ];refine use q ?_;simp only[go_sem,Xo,d,u,dZ];refine⟨p.length-(i+1),aa,i+1,rfl,aa,?_,?_,?_,?_,j,l⟩
  iterate 4 simp only[go_sem,g,h,c]
 ·have e:decide ((i:Int)<(p.length:Int))=false:=bp aa;simp only[go_sem,HQ,Xr,c,d,e]
def zn(n:Nat)(o:List aI)(d c l:List (List aI))(a b:Nat)(k:Nat)(F:Fr)(H:ag):Prop:=∃i:Nat,k=l.length-i∧i≤l.length∧rd 2 F=.ptr 5 0∧rd 3 F=.ptr 6 0∧rd a F=ai (l.length:Int)∧rd b F=ai (i:Int)∧H.get 5=.cells (iB n o d c) 0∧H.get 6=.cells (iB n o d c) 0
def Ps(q:List aI):Prop:=(∀t∈q,t.2.length≤1000)∧q.length≤1000000
theorem aqD(n:Nat)(o:List aI)(a b:List (List aI))(w:∀q∈a,Ps q)(C:a.length≤1000)(F:Fr)(H:ag)(R:X→Fr→ag→Prop)(k:Nat)(h:zn n o a b a 41 42 k F H)
 (v:∀c d,rd 2 c=.ptr 5 0→rd 3 c=.ptr 6 0→d.get 5=.cells (iB n o a b) 0→d.get 6=.cells (iB n o a b) 0→R (.exit 0) c d):bT (.loop Ff) R F H:=by
 refine bW (zn n o a b a 41 42) k h ?_;rintro k z A ⟨i,rfl,B,e,f,fa,g,j,l⟩;unfold Ff;by_cases x:i<a.length
 ·obtain⟨q,r⟩:∃q,a[i]? =some q:=⟨a[i],cH x⟩;have m:decide ((i:Int)<(a.length:Int))=true:=bw aa;have y:aG .i64 ((i:Int)+1)=((i+1:Nat):Int):=by rw[aQ _ aa];rfl
  have dX:=sr (n:=n) (l:=a) (i:=(i:Int)) (k:=.i64) aa;have s:=s4 (n:=n) r;obtain⟨t,u⟩:=w q (er r);have p:=Kj n q t u;unfold g6 at p;simp only[go_sem,Fe,Qw,iB,e,f,fa,g,j,l,m,dX,bN,s];refine use p ?_;simp only[go_sem,Qv,g,y,dZ];refine⟨a.length-(i+1),aa,i+1,rfl,aa,?_,?_,?_,?_,j,l⟩
  iterate 4 simp only[go_sem,e,f,fa]
 ·have m:decide ((i:Int)<(a.length:Int))=false:=bp aa;simp only[go_sem,Fe,fa,g,m];refine v _ _ ?_ ?_ j l
  iterate 2 simp only[go_sem,e,f]
theorem aqE(n:Nat)(o:List aI)(m a:List (List aI))(w:∀q∈a,Ps q)(C:a.length≤1000)(F:Fr)(H:ag)(R:X→Fr→ag→Prop)(k:Nat)(h:zn n o m a a 60 61 k F H)
 (v:∀p r,R (.exit 2) p r):bT (.loop Fh) R F H:=by
 refine bW (zn n o m a a 60 61) k h ?_;rintro k z A ⟨i,rfl,B,d,e,fa,b,f,g⟩;unfold Fh;by_cases x:i<a.length
 ·obtain⟨q,l⟩:∃q,a[i]? =some q:=⟨a[i],cH x⟩;have c:decide ((i:Int)<(a.length:Int))=true:=bw aa;have y:aG .i64 ((i:Int)+1)=((i+1:Nat):Int):=by rw[aQ _ aa];rfl
  have dX:=sr (n:=n) (l:=a) (i:=(i:Int)) (k:=.i64) aa;have s:=s4 (n:=n) l;obtain⟨t,u⟩:=w q (er l);have j:=Kj n q t u;unfold g6 at j;simp only[go_sem,Fg,QA,iB,d,e,fa,b,f,g,c,dX,bN,s];refine use j ?_;simp only[go_sem,Qz,b,y,dZ];refine⟨a.length-(i+1),aa,i+1,rfl,aa,?_,?_,?_,?_,f,g⟩
  iterate 4 simp only[go_sem,d,e,fa]
 ·have c:decide ((i:Int)<(a.length:Int))=false:=bp aa;simp only[go_sem,Fg,fa,b,c];exact v _ _
theorem ap5(n:Nat)(c:n=1∨n=2)(o:List aI)(b a:List (List aI))(g:Ps o)(l:∀q∈b,Ps q)(k:∀q∈a,Ps q)(p:b.length≤1000)(m:a.length≤1000):bA 19 [kM n o b a,kM n o b a] cC:=by
 have j:=ap4 n c;have f:=Kj n o g.1 g.2;unfold g6 eJ at f;refine cT (.cons (tV n c o b a) (.cons (tV n c o b a) .nil)) (.bool _) (bg BH ?_);unfold kM iB;simp only[go_sem,Qu,Qy];refine use j ?_;simp only[go_sem,dZ];refine use f ?_;simp only[go_sem,Qx,dZ,decide_true];refine aqD n o b a l p _ _ _ b.length ⟨0,rfl,ck _,?_,?_,?_,?_,?_,?_⟩ ?_
 iterate 3 simp only[go_sem]
 ·simp only[go_sem];rfl
 ·simp only[go_sem];rfl
 ·simp only[go_sem];rfl
 intro r t d h e i;simp only[go_sem,QC,iB,d,e];refine aqE n o b a k m _ _ _ a.length ⟨0,rfl,ck _,?_,?_,?_,?_,e,i⟩ ?_
 iterate 3 simp only[go_sem,d,h]
 ·simp only[go_sem];rfl
 intro s u;simp only[go_sem,QB]
theorem anv(a b:Int):oR min2 [ai a,ai b]=some (.val (ai (min a b))):=by
 show some (bx.val (V.int .i64 (match j9 b a with|true=>b|false=>a)))=_;rw[n3];by_cases h:b<a
 ·rw[bw h,(aa:min a b=b)]
 ·rw[bp h,(aa:min a b=a)]
theorem anX(l:List Int)(H:ag):dN 7 [lN l] H fun v a=>v=.ptr H.next 0∧a=H.push (.cells (eS (l.take 400) 0) 0):=by
 refine bg fD ?_;have b:slice3 (jA 1) false true false [lN l,ai (min (l.length:Int) 400)]=some (.val (lN (l.take 400))):=by
  have e:(min (l.length:Int) 400).toNat=(l.take 400).length:=by rw[ep];omega
  unfold lN;rw[Cy aJ ⟨aa,aa⟩,e,dQ,←List.map_take,ep];rw[show List.take (min 400 l.length) l=List.take 400 l from by rw[List.take_eq_take_iff];omega]
 have c:bP (lN (l.take 400))=true:=rfl;have d:cellsOf (lN (l.take 400))=[lN (l.take 400)]:=rfl;have cu:V.one (lN (l.take 400))=true:=rfl;simp(disch:=omega)only[go_sem,XF,XK,anv,b,c,d]
 first|exact⟨trivial,rfl⟩|exact⟨rfl,trivial⟩|trivial
theorem amD(l:List Int)(a:l.length≤400)(b:ko l):pT l 8 [] fun v=>∃p:iO,p.aM∧v=mW p:=by
 refine sU .nil fun i d=>bg lB ?_
 simp only[go_sem,XL,XS];refine iX (mU l a b 2 aj) aj d ?_ ?_
 ·simp only[go_sem,qZ,lE]
 rintro _ r ⟨k,o,rfl⟩ e;have m:aG .i64 (1+(k:Int))=((k+1:Nat):Int):=by rw[aQ _ aa];omega
 simp only[go_sem,m];refine iX (aoJ l a b (k+1) aa) aj e ?_ ?_
 ·simp only[go_sem]
 rintro _ h ⟨p,q,g,rfl⟩ f;have j:∀t,bP (bV t)=true∧cellsOf (bV t)=[bV t]∧V.one (bV t)=true:=fun _=>⟨rfl,rfl,rfl⟩
 have c:∀t,bP (gz p.n t)=true∧cellsOf (gz p.n t)=[gz p.n t]∧V.one (gz p.n t)=true:=fun _=>⟨rfl,rfl,rfl⟩
 unfold mW;simp only[go_sem,lE,(j p.obj).2.2,(c p.is).2.2,(c p.es).2.2];refine⟨h,_,f,?_,.same _,vS p,p,g,rfl⟩;simp only[go_sem]
def kE(s:dc):fO:=⟨rv s.1,rv s.2, !decide (s.1=[]), !decide (s.2=[])⟩
theorem an9:numOf []=none:=by
 cases h:numOf []with
 |none=>rfl
 |some q=>
  have a:=congrArg jD (uC h);unfold bS at a;rw[bt,bt,lR]at a;have:=r4 q.num.natAbs;omega
theorem abO(x:List UInt8):(iK x).2=mV x∧(mV x=true→(iK x).1=rv x):=by
 unfold iK mV;by_cases h:x=[]
 ·rw[ay h,bw h];refine⟨rfl,fun _=>?_⟩;rw[h,Cs an9]
 ·rw[au h,bp h,Bool.false_or];obtain⟨b,c⟩:=apf x;refine⟨b,fun d=>?_⟩;obtain⟨q,a⟩:=Option.isSome_iff_exists.1 d;rw[c q a,mq a]
theorem aph(s:dc):sL s=if ki s then some (kE s)else none:=by
 obtain⟨j,g⟩:=abO s.1;obtain⟨k,i⟩:=abO s.2;unfold sL;rw[j,k];by_cases h:ki s=true
 ·rw[ay h];unfold ki at h;simp only[cz]at h;obtain⟨⟨a,b⟩,f⟩:=h;have l:¬(s.1≠[]∧s.2≠[]∧0≤ig (rv s.1-rv s.2)):=by
   rintro⟨c,d,j7⟩;rw[bp c,bp d,bp (aa:¬ig (rv s.1-rv s.2)<0)]at f;cases f
  rw[g a,i b];exact ay ⟨a,b,l⟩
 ·rw[au h];by_cases a:mV s.1=true
  ·by_cases b:mV s.2=true
   ·rw[g a,i b,au];rintro⟨_,_,f⟩;apply h;unfold ki;rw[a,b];by_cases c:s.1=[]
    ·rw[bw c];rfl
    ·by_cases d:s.2=[]
     ·rw[bw d];simp
     ·have j7:ig (rv s.1-rv s.2)<0:=by
       by_cases j7:ig (rv s.1-rv s.2)<0
       ·exact j7
       ·exact absurd ⟨c,d,aa⟩ f
      rw[bw j7];simp
   ·rw[au (fun e=>b e.2.1)]
  ·rw[au (fun e=>a e.1)]
theorem J6:∀l:List dc,rj l=if l.all ki then some (l.map kE)else none
 |[]=>rfl
 |s::l=>by
  rw[rj,aph,J6 l,List.all_cons,List.map_cons];cases ki s<;>cases l.all ki<;>rfl
theorem apd{l:List dc}(h:mu a l=true):o7 a l=.aK [jW (l.map kE),cC]:=by
 unfold mu at h;rw[cz]at h;unfold o7;rw[J6,ay h.2];show V.aK [jW (l.map kE),.bool (decide ((l.map kE).length=a))]=_;rw[lQ,h.1]
theorem apc{l:List dc}(h:mu a l=false):∃x,o7 a l=.aK [jW x,aq]:=by
 unfold mu at h;unfold o7;rw[J6];by_cases b:l.all ki=true
 ·rw[ay b];rw[b,Bool.and_true]at h;refine⟨l.map kE,?_⟩;show V.aK [jW (l.map kE),.bool (decide ((l.map kE).length=a))]=_;rw[lQ,h]
 ·rw[au b];exact⟨[],rfl⟩
theorem abP(n:Nat):∀(j:Nat) (l:List dc),kU n j (l.map kE)=gI n j l
 |_,[]=>rfl
 |j,s::l=>by
  rw[List.map_cons,kU,gI,abP n (j+1) l];have a:ri n j (kE s)=oZ n j s.1:=by
   unfold ri oZ kE;by_cases c:s.1=[]
   ·simp[c]
   ·simp[c]
  have b:sK n j (kE s)=p_ n j s.2:=by
   unfold sK p_ kE;by_cases c:s.2=[]
   ·simp[c]
   ·simp[c]
  rw[a,b]
theorem ap8(l:List dc):(l.map kE).all Ct=l.all k9:=by
 rw[List.all_map];congr 1;funext s;show((!decide (s.1=[]))&& !decide (s.2=[]))=_;unfold k9;rw[Bool.not_or]
theorem aeu(l:List dc):vq (l.map kE)=if l.all k9 then .aK [ej jv (l.map ew),cC]else .aK [ej jv [],aq]:=by
 unfold vq;rw[ap8,List.map_map];rfl
def C2:jl:=Ia 5 s8 xm o5 400
theorem adx:nG eW 5 C2:=Yn hT cA aa_ fJ 400
def BD(v:V):Bool:=match v with|.bool b=>b|_=>false
def aay:Bool:=match C2 (.fn 10) [] dG with
 |some (v,H)=>and (BD v) (and (tr (H.get 0) (dG.get 0)) (and (tr (H.get 1) (dG.get 1)) (tr (H.get 4) (dG.get 4))))
 |none=>false
theorem amA:aay=true:=by kernel_rfl
theorem Jl:ff 10 [] cC:=by
 refine fK .nil ?_;have h:=amA;unfold aay at h;cases b:C2 (.fn 10) [] dG with
 |none=>rw[b]at h;cases h
 |some r=>
  obtain⟨v,H⟩:=r;rw[b]at h;have c:and (BD v) (and (tr (H.get 0) (dG.get 0)) (and (tr (H.get 1) (dG.get 1)) (tr (H.get 4) (dG.get 4))))=true:=h;rw[cz,cz,cz]at c;obtain⟨d,j,k,l⟩:=c;have n:v=cC:=by
   cases v<;>first|(cases d;done)|skip
   exact congrArg V.bool d
  have m:GT H:=fun y p e=>by
   rw[←e];rw[lq]at e;split at e
   ·rename_i f;subst f;exact Dx l
   ·split at e
    ·rename_i a;subst a;exact Dx k
    ·split at e
     ·rename_i a;subst a;exact Dx j
     ·cases e
  refine(adx b).mono fun q o ⟨g,i⟩=>?_
  rw[g,i];exact cX m n (.bool _)
def B9(p:iO):List V:=[ai (p.n:Int),ai (p.n:Int),bV p.obj,gz p.n p.is,gz p.n p.es]
theorem acA(n i:Nat)(j:n=1∨n=2)(g:i<n)(c b:Rat)(f:bB 100 c)(k:bB 100 b):pU n 100 (g_ n i c b)∧Ps (g_ n i c b):=by
 have d:=uT n i j g;have e:∀t∈g_ n i c b,t=(c,U n i)∨t=(b,Z n):=fun t a=>by
  unfold g_ at a;rcases gL.1 a with h|h
  ·exact .inl h
  ·unfold gP at h;split at h
   ·cases h
   ·exact .inr (dH.1 h)
 have l:(g_ n i c b).length≤2:=by
  unfold g_;rw[di];have:=JE (b,Z n);omega
 refine⟨⟨fun t a=>?_,fun t a=>?_,aa⟩,⟨fun t a=>?_,aa⟩⟩
 ·rcases e t a with rfl|rfl
  ·exact d.l1
  ·exact d.l2
 ·rcases e t a with rfl|rfl
  ·exact f
  ·exact k
 ·rcases e t a with rfl|rfl
  ·show(U n i).length≤1000;rw[d.l1];omega
  ·show(Z n).length≤1000;rw[d.l2];omega
theorem ab5(n:Nat)(a:n=1∨n=2):∀(j:Nat) (l:List dc),j+l.length≤n→(∀s∈l,nE s)→∀q∈gI n j l,pU n 100 q∧Ps q
 |_,[],_,_,q,hq=>by cases hq
 |j,s::l,c,b,q,hq=>by
  rw[di]at c;obtain⟨e,f⟩:=b s aJ;rw[gI]at hq;rcases gU.1 hq with hq|hq
  ·rcases gU.1 hq with hq|hq
   ·unfold oZ at hq;split at hq
    ·cases hq
    ·rw[dH.1 hq];exact acA n j a aa _ _ yH ((wE (mo (L:=20) e)).mono aj)
   ·unfold p_ at hq;split at hq
    ·cases hq
    ·rw[dH.1 hq];exact acA n j a aa _ _ abD ((mo (L:=20) f).mono aj)
  ·exact ab5 n a (j+1) l aa (fun s d=>b s (by simp[d])) q hq
variable{l:List aI}
theorem KY(i:a=1∨a=2)(f:g≤3)(h:qD a g l):pU a 100 l∧Ps l:=by
 obtain⟨e,b,c⟩:=CZ i f h;have j:=h.2.2;exact⟨⟨e,fun t d=>(b t d).mono aj,c⟩,fun t d=>by rw[e t d];omega,aa⟩
theorem aaC(p:iO)(d:p.aM)(bs:List dc)(j:∀s∈bs,nE s)(A:bs.length≤1000)(F:Fr)(H:ag)(f:rd 3 F=.ptr 5 0)(R:rd 6 F=.ptr 7 0)(z:rd 7 F=.ptr 8 0)
 (g:H.get 5=.cells [ej ek bs] 0) (bO:H.get 7=.cells (B9 p) 0) (eV:H.get 8=.cells (oL p) 0) (K:GT H) (b':9≤H.next):
 bT AT (gl [gV.tmp 4] fun v1 Q=>GT Q∧∃v,cr Q (dG.lW Q.next) v1 v∧bZ v∧v=cC) F H:=by
 have B:=d.n;have C:=apn p.n bs A (fun s D=>⟨by have:=(j s D).1;omega,by have:=(j s D).2;omega⟩);have a:=adG p d bs j A;have b:=adK p d bs j A;have k:=KN p d bs j A;have X:=Jl;unfold B9 at bO;unfold oL at eV;have L:¬H.next=5:=aa
 have bv:¬H.next=7:=aa
 have M:¬H.next=8:=aa
 cases I:mu p.n bs with
 |false=>
  obtain⟨x,hx⟩:=apc I;rw[hx]at C;unfold Cl at a;unfold CX at b;rw[I]at a b k;simp only[kj,↓reduceIte]at a b;unfold hY at C a b k;unfold je at a b k;simp only[go_sem,AT,f,R,g,bO];refine use C ?_;simp only[go_sem,Hu,f,z,g,eV];refine cy a K ?_;simp only[go_sem,Ht,f,z,g,eV,L,M];have i:GT ((H.push (.cells [.ak,ai 0,.ak,.ak,.ak] 0)).set H.next (.cells [.ak,ai 0,.ak,.ak,.ak] 0)):=(K.push aa _).set aa _
  refine cy b i ?_;simp only[go_sem,Hs,f,z,g,eV,L,M];refine cy k i ?_;simp only[go_sem];have l0:eC V.ak=some (.val (ai 0)):=rfl;simp only[go_sem,Hr,gS];refine cy X i ?_;simp only[go_sem,decide_true,l0];exact cX i rfl (.bool _)
 |true=>
  have U:=I;unfold mu at U;rw[cz]at U;have bb:bs.length=p.n:=of_decide_eq_true U.1;rw[apd I]at C;unfold Cl at a;unfold CX at b;rw[I]at a b k;simp only[↓reduceIte]at a b;have a9:∀s∈bs.map kE,nN 90 s:=fun s D=>by
   obtain⟨t,Z,rfl⟩:=nc.1 D;obtain⟨s1,s2⟩:=j t Z;exact⟨(mo (L:=20) s1).mono aj,(mo (L:=20) s2).mono aj⟩
  have J:=apv p d (bs.map kE) (by rw[lQ,bb]) a9;rw[abP]at J;have be:=ab5 p.n B 0 bs aa j;have ca:=Ck p.n 0 bs;have b2:=d.li;have b1:=d.le;have aw:∀q∈p.is++gI p.n 0 bs,pU p.n 100 q∧Ps q:=fun q c=>by
   rcases gU.1 c with h|h
   ·exact KY B aj (d.is q h)
   ·exact be q h
  have a1:=KY B aj d.obj;have am:∀q∈p.es,pU p.n 100 q∧Ps q:=fun q c=>KY B aj (d.es q c)
  have G:=ad7 ⟨p.n,p.obj,p.is++gI p.n 0 bs,p.es⟩ B a1.1 (fun q c=>(aw q c).1) (fun q c=>(am q c).1) (by show(p.is++gI p.n 0 bs).length≤1000;rw[bt];omega) (by show p.es.length≤1000;omega);have Y:=ap5 p.n B p.obj (p.is++gI p.n 0 bs) p.es a1.2 (fun q c=>(aw q c).2) (fun q c=>(am q c).2) (by rw[bt];omega) aa;obtain⟨l,ba⟩:∃l,l=p.is++gI p.n 0 bs:=⟨_,rfl⟩;rw[←ba]at a J G Y;have al:=aes (bs.map kE) (by rw[lQ];exact A);rw[aeu]at al;unfold hY at C a b k;unfold je at a b k G;unfold kM iB at a Y;unfold mW at J G;simp only at J G;have kt:bP (bV p.obj)=true∧cellsOf (bV p.obj)=[bV p.obj]∧V.one (bV p.obj)=true:=⟨rfl,rfl,rfl⟩;have kp:∀t,bP (gz p.n t)=true∧cellsOf (gz p.n t)=[gz p.n t]∧V.one (gz p.n t)=true:=fun _=>⟨rfl,rfl,rfl⟩
  have i:GT ((H.push (.cells [.ak,ai 0,.ak,.ak,.ak] 0)).set H.next (.cells [fk p.n,ai (p.n:Int),eE p.obj,cK p.n l,cK p.n p.es] 0)):=(K.push aa _).set aa _
  simp only[go_sem,AT,f,R,g,bO];refine use C ?_;simp only[go_sem,Hu,f,z,g,eV];refine cy a K ?_;simp only[go_sem,Ht,f,z,g,eV,L,M];obtain⟨O,P,N,y⟩:∃O P N,(if bs.all k9=true then V.aK [ai ((gD (bs.map ew) bs.length:Nat):Int),.str (bS (half*((ee (bs.map ew) (gD (bs.map ew) bs.length)).1+(ee (bs.map ew) (gD (bs.map ew) bs.length)).2))),ai 0]else .aK [ai 0,.str [],ai 15])=.aK [ai O,.str P,ai N]:=by
   split
   ·exact⟨_,_,_,rfl⟩
   ·exact⟨_,_,_,rfl⟩
  rw[y]at b;refine cy b i ?_;simp only[go_sem,Hs,f,z,g,eV,L,M];refine cy k i ?_;simp only[go_sem,Hr,VX,R,bO,bv,dZ];refine use J ?_;have m1:¬H.next+1=H.next:=aa
  have W:GT ((((H.push (.cells [.ak,ai 0,.ak,.ak,.ak] 0)).set H.next (.cells [fk p.n,ai (p.n:Int),eE p.obj,cK p.n l,cK p.n p.es] 0)).push (.cells [ai 0,ai 0,.ak,.ak,.ak] 0)).set (H.next+1) (.cells [ai (p.n:Int),ai (p.n:Int),bV p.obj,gz p.n l,gz p.n p.es] 0)):=(i.push (by simp only[go_sem];omega) _).set aa _
  simp only[go_sem,VW,kt.2.2,(kp l).2.2,(kp p.es).2.2,m1,decide_true,dZ];refine use G ?_;simp only[go_sem,m1,true_and];refine use Y ?_;simp only[go_sem,VV,dZ];refine use al ?_;cases ha:bs.all k9 with
  |false=>
   rw[ha]at y;simp only[kj,↓reduceIte]at y⊢;obtain⟨rfl,rfl,rfl⟩:O=0∧P=[]∧N=15:=by
    injection y with h
    injection h with o S
    injection S with r T
    injection T with u _
    injection o with _ o
    injection r with r
    injection u with _ u
    exact⟨o.symm,r.symm,u.symm⟩
   simp only[go_sem,Hx,gS];refine cy X W ?_;simp only[go_sem,decide_true];exact cX W rfl (.bool _)
  |true=>
   rw[ha]at y;simp only[↓reduceIte]at y⊢;obtain⟨rfl,rfl,rfl⟩:O=((gD (bs.map ew) bs.length:Nat):Int)∧P=bS (half*((ee (bs.map ew) (gD (bs.map ew) bs.length)).1+(ee (bs.map ew) (gD (bs.map ew) bs.length)).2))∧N=0:=by
    injection y with h
    injection h with o S
    injection S with r T
    injection T with u _
    injection o with _ o
    injection r with r
    injection u with _ u
    exact⟨o.symm,r.symm,u.symm⟩
   have ad:∀s∈bs.map ew,bB 90 s.1∧bB 90 s.2:=fun s D=>by
    obtain⟨t,Z,rfl⟩:=nc.1 D;obtain⟨s1,s2⟩:=j t Z;exact⟨(mo (L:=20) s1).mono aj,(mo (L:=20) s2).mono aj⟩
   have bd:bs.map ew≠[]:=fun e=>by
    have:=congrArg jD e;rw[lQ,lR]at this;omega
   have E:=arU (bs.map ew) 90 aj bd (by rw[lQ];exact A) ad;unfold KV at E;rw[lQ]at E;obtain⟨w,hw⟩:∃w,w=gD (bs.map ew) bs.length:=⟨_,rfl⟩;have a4:w<(bs.map ew).length:=by
    rw[hw,lQ];rcases zd (bs.map ew) bs.length with h|h<;>omega
   rw[←hw]at E⊢;obtain⟨m,hm⟩:∃m,m=half*((ee (bs.map ew) w).1+(ee (bs.map ew) w).2):=⟨_,rfl⟩;have bc:bB 200 m:=by
    have hi:=ad (ee (bs.map ew) w) (by
     unfold ee;rw[c_,cH a4];exact u_ a4)
    have a':bB 10 half:=⟨by rw[so.1];decide,by rw[so.2];decide⟩;rw[hm];exact(a'.mul (hi.1.add hi.2)).mono aj
   rw[←hm]at E⊢;have a2:=y2 m bc aj;unfold cJ bY at a2 E;simp only[go_sem,Hx,VU,dZ];refine use E ?_;simp only[go_sem,VT];have ap:∀o1 o2,GT (((((((H.push (.cells [.ak,ai 0,.ak,.ak,.ak] 0)).set H.next (.cells [fk p.n,ai (p.n:Int),eE p.obj,cK p.n l,cK p.n p.es] 0)).push (.cells [ai 0,ai 0,.ak,.ak,.ak] 0)).set (H.next+1) (.cells [ai (p.n:Int),ai (p.n:Int),bV p.obj,gz p.n l,gz p.n p.es] 0))).push o1).set (H.next+1+1) o2):=fun o1 o2=>(W.push (by simp only[go_sem];omega) _).set aa _
   refine cy X (ap _ _) ?_;simp only[go_sem,decide_true];refine use a2 ?_;simp only[go_sem,decide_true];exact cX (ap _ _) rfl (.bool _)
def adE(bs:List dc)(a:Fr)(b:ag)(k:Nat)(F:Fr)(H:ag):Prop:=∃i:Nat,k=bs.length-i∧i≤bs.length∧(∀t,t<9→t≠4→rd t F=rd t a)∧rd 35 F=ej ek bs∧rd 36 F=ai (bs.length:Int)∧rd 37 F=ai (i:Int)∧(∀y,y<9→H.get y=b.get y)∧GT H∧9≤H.next∧(∀s∈bs.take i,nE s)
theorem anb(bs:List dc)(U:bs.length≤1000)(F:Fr)(H:ag)(R:X→Fr→ag→Prop)(E:rd 35 F=ej ek bs)(G:rd 36 F=ai (bs.length:Int))(I:rd 37 F=ai 0)(K:GT H)(N:9≤H.next)
 (J:(∀s∈bs,nE s)→∀b a,(∀t,t<9→t≠4→rd t b=rd t F)→(∀y,y<9→a.get y=H.get y)→GT a→9≤a.next→R (.exit 0) b a) (w:∀b a,rd 4 b=cC→GT a→R .ret b a):
 bT (.loop Hw) R F H:=by
 refine bW (adE bs F H) bs.length ⟨0,rfl,ck _,fun _ _ _=>rfl,E,G,I,fun _ _=>rfl,K,N,fun s m=>by cases m⟩ ?_;rintro k S r ⟨i,rfl,T,v,j,c,d,A,x,O,p⟩;unfold Hw;by_cases M:i<bs.length
 ·obtain⟨s,m⟩:∃s,bs[i]? =some s:=⟨bs[i],cH M⟩;have e:decide ((i:Int)<(bs.length:Int))=true:=bw aa;have Q:aG .i64 ((i:Int)+1)=((i+1:Nat):Int):=by rw[aQ _ aa];rfl
  have dX:=mP (f:=ek) (k:=2) (l:=bs) (i:=(i:Int)) (ik:=.i64) aa;have l:=o9 rB m;have f:GT ((r.push (.cells [.str [],.str []] 0)).set r.next (.cells [.str s.1,.str s.2] 0)):=(x.push aa _).set aa _
  have z:=Jl;simp only[ek]at l;by_cases C:s.1.length≤20
  ·have g:decide ((20:Int)<(s.1.length:Int))=false:=bp aa;by_cases D:s.2.length≤20
   ·have n:decide ((20:Int)<(s.2.length:Int))=false:=bp aa;simp only[go_sem,xW,AS,j,c,d,e,dX,bN,l,g,n];simp only[go_sem,VN,d,Q];refine⟨bs.length-(i+1),aa,i+1,rfl,aa,fun t q o=>?_,?_,?_,?_,fun y P=>?_,f,?_,fun u B=>?_⟩
    ·simp(disch:=omega)only[cc];exact v t q o
    iterate 3 simp only[go_sem,j,c]
    ·rw[ag.a_,au aa,ag.bE,au aa];exact A y P
    ·simp only[go_sem];omega
    ·rw[yZ m]at B;rcases gU.1 B with h|h
     ·exact p u h
     ·rw[dH.1 h];exact⟨C,D⟩
   ·have n:decide ((20:Int)<(s.2.length:Int))=true:=bw aa;simp only[go_sem,xW,AS,j,c,d,e,dX,bN,l,g,n];refine cy z f ?_;simp only[go_sem];exact w _ _ (by simp only[go_sem]) f
  ·have g:decide ((20:Int)<(s.1.length:Int))=true:=bw aa;simp only[go_sem,xW,AS,j,c,d,e,dX,bN,l,g];refine cy z f ?_;simp only[go_sem];exact w _ _ (by simp only[go_sem]) f
 ·have L:i=bs.length:=aa;subst L;have e:decide ((bs.length:Int)<(bs.length:Int))=false:=bp aa;rw[cq (aR _)]at p;simp only[go_sem,xW,c,d,e];exact J p _ _ (fun t q o=>by simp(disch:=omega)only[cc];exact v t q o) A x O
theorem YJ(h:a<2^9):(dec a).length≤3:=by
 by_cases b:a=0
 ·rw[b];decide
 ·have:dec a=ds a:=au b;rw[this];exact oO (k:=3) (oG h aj)
theorem ar4{s:fO}(h:nN 9 s):nE (oq s):=by
 have b:∀q:Rat,bB 9 q→(bS q).length≤20:=fun q a=>by
  have e:=YJ a.num;have f:=YJ a.den;unfold bS;rw[bt,bt];have c:(if q.num<0 then [(45:UInt8)]else []).length≤1:=by split<;>simp
  have d:(if q.den=1 then []else(47:UInt8)::dec q.den).length≤4:=by
   split
   ·simp
   ·rw[di];omega
  omega
 unfold oq nE;constructor
 ·show(if s.hl then bS s.lo else []).length≤20;split
  ·exact b _ h.1
  ·simp
 ·show(if s.hh then bS s.hi else []).length≤20;split
  ·exact b _ h.2
  ·simp
theorem apy(l:List Int)(M:ko l)(bs:List dc):ff 3 [lN l,hY bs] cC:=by
 have I:=Jl;have f:(l.take 400).length≤400:=by rw[ep];omega
 have qa:ko (l.take 400):=fun z N=>M z (ve N)
 refine fK (.cons (Zs l) (.cons (qV bs) .nil)) (bg cu ?_);unfold hY;simp only[go_sem,j7,VS];refine(anX l _).mono ?_;rintro _ _ ⟨rfl,rfl⟩;simp only[go_sem,VR];refine iX (amD (l.take 400) f qa) aj (ck _) ?_ ?_
 ·simp only[go_sem]
 rintro _ O ⟨p,g,rfl⟩ E;have X:=g.n;have w:=ad6 p g;have R:bP (bV p.obj)=true∧cellsOf (bV p.obj)=[bV p.obj]∧V.one (bV p.obj)=true:=⟨rfl,rfl,rfl⟩;have A:∀t,bP (gz p.n t)=true∧cellsOf (gz p.n t)=[gz p.n t]∧V.one (gz p.n t)=true:=fun _=>⟨rfl,rfl,rfl⟩
 unfold mW je at w;unfold mW;simp only[go_sem,R.2.2,(A p.is).2.2,(A p.es).2.2];simp only[go_sem,VQ];refine use w ?_;simp only[go_sem];by_cases S:bs.length≤4
 ·have j:decide ((4:Int)<(bs.length:Int))=false:=bp aa;simp only[go_sem,Hv,VP,j];refine anb bs aa _ _ _ ?_ ?_ ?_ cl ?_ ?_ ?_
  iterate 3 simp only[go_sem]
  ·simp only[go_sem];decide
  ·intro J a b c d e Y;have m:rd 3 a=.ptr 5 0:=by rw[c 3 aj aj];simp only[go_sem]
   have q:rd 5 a=.ptr 6 0:=by rw[c 5 aj aj];simp only[go_sem]
   have o:rd 6 a=.ptr 7 0:=by rw[c 6 aj aj];simp only[go_sem]
   have r:rd 7 a=.ptr 8 0:=by rw[c 7 aj aj];simp only[go_sem]
   have v:b.get 5=.cells [ej ek bs] 0:=by rw[d 5 aj];simp only[go_sem]
   have B:b.get 6=.cells (eS (l.take 400) O) 0:=by rw[d 6 aj];simp only[go_sem]
   have bO:b.get 7=.cells (B9 p) 0:=by rw[d 7 aj];simp only[go_sem];rfl
   have eV:b.get 8=.cells (oL p) 0:=by rw[d 8 aj];simp only[go_sem];rfl
   clear c d;simp only[go_sem,VO,q];refine iX (mU (l.take 400) f qa 2 aj) aj E B ?_;rintro _ i2 ⟨k,U,rfl⟩ F;by_cases H:k=0
   ·subst H;have i:decide (((0:Nat):Int)=0)=true:=rfl;unfold B9 at bO;simp only[go_sem,q,o,bO,i];refine iX (mU (l.take 400) f qa 2 aj) aj F ?_ ?_
    ·simp only[go_sem]
    rintro _ i3 ⟨P,W,rfl⟩ G;obtain⟨h,D⟩:∃h,h=decide ((P:Int)=0):=⟨_,rfl⟩;simp only[go_sem,bO,true_and];rw[←D];refine iX (aev (l.take 400) f qa p.n aa h) aj G ?_ ?_
    ·simp only[go_sem]
    rintro _ i4 ⟨s,Z,x,rfl⟩ T;have y:=ar6 s 9 aj aa x;unfold hY at y;have Q:bP (ej ek (s.map oq))=true∧cellsOf (ej ek (s.map oq))=[ej ek (s.map oq)]∧V.one (ej ek (s.map oq))=true:=⟨rfl,rfl,rfl⟩;simp only[go_sem];refine use y ?_;simp only[go_sem,m,v,Q.2.2];refine aaC p g (s.map oq) (fun t K=>?_) (by rw[lQ];omega) _ _ ?_ ?_ ?_ ?_ ?_ ?_ ?_ ?_
    ·obtain⟨u,L,rfl⟩:=nc.1 K;exact ar4 (x u L)
    iterate 4 simp only[go_sem,m,o,r]
    ·simp only[go_sem,bO];rfl
    ·simp only[go_sem,eV]
    ·exact(((e.set aj _).set aj _).set aj _).set aj _
    ·simp only[go_sem];omega
   ·have i:decide ((k:Int)=0)=false:=bp aa;simp only[go_sem,i];refine aaC p g bs J aa _ _ ?_ ?_ ?_ ?_ ?_ ?_ ?_ ?_
    iterate 6 simp only[go_sem,m,o,r,v,bO,eV]
    ·exact e.set aj _
    ·simp only[go_sem];omega
  ·intro a b C e;simp only[go_sem,C];exact cX e rfl (.bool _)
 ·have j:decide ((4:Int)<(bs.length:Int))=true:=bw aa;simp only[go_sem,Hv,j];refine cy I cl ?_;simp only[go_sem];exact cX cl rfl (.bool _)
open Go.RowKit (Below)
def sZ(k:IntKind)(l:List Nat):Array Value:=(l.map fun n=>Value.int k (.ofNat n)).toArray
def kJ(w:World)(g:Nat)(k:IntKind)(l:List Nat):Prop:=∃t,w.heap[g]? =some (.cells (sZ k l) t (0,0))
def qo(k:IntKind)(l:List Nat):List V:=l.map fun d:Nat=>V.int k (d:Int)
theorem aqW{k:IntKind}{l:List Nat}{i:Nat}{v:V}(h:(qo k l)[i]? =some v):∃n,l[i]? =some n∧v=.int k (.ofNat n):=by
 unfold qo at h;rw[qE]at h;cases hl:l[i]? with
 |none=>rw[hl]at h;cases h
 |some n=>rw[hl]at h;cases h;exact⟨n,rfl,rfl⟩
theorem kJ.cell{w:World}{g:Nat}{k:IntKind}{l:List Nat}(h:kJ w g k l){i n:Nat}(hi:l[i]? =some n):w.cell? ⟨g,i,none⟩=some (.int k (.ofNat n))∧w.frozen? ⟨g,i,none⟩=false:=by
 obtain⟨t,h⟩:=h;unfold World.cell? World.frozen?;simp only[h];refine⟨?_,aJ⟩;simp[sZ,hi]
theorem kJ.kind{w:World}{g:Nat}{k:IntKind}{l:List Nat}(h:kJ w g k l){o:Nat}{v:Value}(hc:w.cell? ⟨g,o,none⟩=some v):∃z,v=.int k z:=by
 obtain⟨t,h⟩:=h;unfold World.cell? at hc;simp only[h]at hc;simp[sZ]at hc;obtain⟨a,_,h2⟩:=hc;exact⟨_,h2.symm⟩
def wj(b:Nat):Nat:=if b=0 then 20 else if b=1 then 64 else if b=4 then 32 else 0
def ud(S:List Nat)(w:World)(c:Nat):Option Obj:=if c∈S then w.heap[c]? else none
def qh(S:List Nat)(w:World):aO:=⟨fun b=>if b<5 then some ⟨b,0,wj b⟩else none,ud S w⟩
theorem wA{S:List Nat}{w:World}{b:Nat}(h:b<5):qh S w b=some ⟨b,0,wj b⟩:=ay h
theorem sJ{S:List Nat}{w:World}{b:Nat}{l:Go.aE.Loc}(h:qh S w b=some l):b<5∧l=⟨b,0,wj b⟩:=by
 by_cases hb:b<5
 ·rw[wA hb]at h;cases h;exact⟨hb,rfl⟩
 ·rw[show qh S w b=none from au hb]at h;cases h
structure Start (w:World) (S:List Nat):Prop where
 t0:kJ w 0 .u64 mj
 t1:kJ w 1 .u8 mZ
 t4:kJ w 4 .u8 qn
 size:5≤w.heap.size
 im:∀c∈S,(∃cs t fr,w.heap[c]? =some (.cells cs t fr))∧c≠0∧c≠1∧c≠4
theorem C7{b g:Nat}{cs:List V}(h:dG.get b=.cells cs g):g=0∧((b=0∧cs=qo .u64 mj)∨(b=1∧cs=qo .u8 mZ)∨(b=4∧cs=qo .u8 qn)):=by
 rw[lq]at h;split at h
 ·rename_i e;cases h;exact⟨rfl,.inr (.inr ⟨e,rfl⟩)⟩
 ·split at h
  ·rename_i e;cases h;exact⟨rfl,.inr (.inl ⟨e,rfl⟩)⟩
  ·split at h
   ·rename_i e;cases h;exact⟨rfl,.inl ⟨e,rfl⟩⟩
   ·cases h
theorem Ld{w:World}{S:List Nat}(hS:Start w S){b g:Nat}{cs:List V}(h:dG.get b=.cells cs g):g=0∧∃k L,kJ w b k L∧cs=qo k L∧b<5∧L.length=wj b:=by
 obtain⟨h1,h2⟩:=C7 h;rcases h2 with⟨rfl,rfl⟩|⟨rfl,rfl⟩|⟨rfl,rfl⟩
 ·exact⟨h1,_,_,hS.t0,rfl,aj,rfl⟩
 ·exact⟨h1,_,_,hS.t1,rfl,aj,rfl⟩
 ·exact⟨h1,_,_,hS.t4,rfl,aj,rfl⟩
theorem adA{b x y:Nat}(h:dG.get b=.b5 x y):False:=by
 rw[lq]at h;split at h
 ·cases h
 ·split at h
  ·cases h
  ·split at h<;>cases h
theorem adB{b:Nat}{o:nj}(h:dG.get b=.cv o):False:=by
 rw[lq]at h;split at h
 ·cases h
 ·split at h
  ·cases h
  ·split at h<;>cases h
theorem apA{w:World}{S:List Nat}(hS:Start w S):Rel (qh S w) dG w:=by
 refine⟨?_,?_,?_,?_,?_,?_,?_,?_,?_,?_,?_⟩
 ·intro b l cs g i v e1 e2 _ ID;obtain⟨_,k,L,h1,rfl,h3,_⟩:=Ld hS e2;obtain⟨_,rfl⟩:=sJ e1;obtain⟨n,hn,rfl⟩:=aqW ID;refine⟨_,?_,.int k (.ofNat n)⟩;show w.cell? ⟨b,0+i,none⟩=_;rw[fB];exact(h1.cell hn).1
 ·intro b l i e1 hi;obtain⟨_,rfl⟩:=sJ e1;have yW:∀ {g:Nat}{k:IntKind}{L:List Nat},kJ w g k L→i<L.length→(∃v',w.cell? ⟨g,0+i,none⟩=some v')∧w.frozen? ⟨g,0+i,none⟩=false:=by
   intro g k L h hi;have:=h.cell (cH hi);rw[fB];exact⟨⟨_,this.1⟩,this.2⟩
  have hi':i<wj b:=hi;unfold wj at hi';split at hi'
  ·rename_i e;subst e;exact yW hS.t0 hi'
  ·split at hi'
   ·rename_i e;subst e;exact yW hS.t1 hi'
   ·split at hi'
    ·rename_i e;subst e;exact yW hS.t4 hi'
    ·omega
 ·intro b l cs g e1 e2;obtain⟨_,k,L,_,rfl,_,h4⟩:=Ld hS e2;obtain⟨_,rfl⟩:=sJ e1;unfold qo;rw[lQ,h4];exact aR _
 ·intro b b' l l' e1 e2 Bk ID;obtain⟨_,rfl⟩:=sJ e1;obtain⟨_,rfl⟩:=sJ e2;exact absurd Bk ID
 ·intro b hb;have hb':5≤b:=hb;exact⟨au aa,yX.top b hb'⟩
 ·intro b l e1;obtain⟨h,rfl⟩:=sJ e1;exact ei h hS.size
 ·intro b cs g leaf si e1 e2;exact absurd (C7 e1).1 e2
 ·intro g leaf si e1;exact(adA e1).elim
 ·intro b l o _ e2;exact(adB e2).elim
 ·intro c x e;have e':ud S w c=some x:=e;unfold ud at e';split at e'
  ·rename_i hc;obtain⟨⟨cs,t,fr,h1⟩,h2,h3,h4⟩:=hS.im c hc;rw[h1]at e';refine⟨by rw[h1];exact e',⟨cs,t,fr,(Option.some.inj e').symm⟩,fun b l e1 e2=>?_⟩;obtain⟨_,rfl⟩:=sJ e1;have e2:b=c:=e2;rw[lq,au aa,au aa,au aa]
  ·cases e'
 ·intro b cs g e;rw[(C7 e).1];exact Nat.zero_lt_succ _
theorem aip(S:List Nat)(w:World):kn 5 (qh S w):=fun _ hg=>⟨_,wA hg⟩
theorem KA{w w':World}{ψ:aO}{H':ag}{g n:Nat}{k:IntKind}{L:List Nat}(hr:Rel ψ H' w')(hs:gW w w')(ajm:ψ g=some ⟨g,0,n⟩)(aiS:H'.get g=.cells (qo k L) 0)(h:kJ w g k L):w'.heap[g]? =w.heap[g]? :=by
 obtain⟨t,h0⟩:=h;obtain⟨cs',h1,h2⟩:=hs.shape g _ t (0,0) h0;rw[h1,h0];have:cs'=sZ k L:=by
  refine Array.ext h2 ?_;intro i hi1 hi2;have x8:i<L.length:=by simpa [sZ]using hi2
  have hn:(qo k L)[i]? =some (.int k (.ofNat L[i])):=by unfold qo;simp[x8]
  obtain⟨v',e1,e2⟩:=hr.cell ajm aiS rfl hn;cases e2;rw[fB]at e1;unfold World.cell? at e1;simp only[h1]at e1;simp[hi1]at e1;rw[e1];simp[sZ]
 rw[this]
theorem amE{w:World}{S:List Nat}{l:List Int}{bs:List dc}{sl DI:Value}(hS:Start w S)(hl:aS (qh S w) (lN l) sl)(hb:aS (qh S w) (hY bs) DI)(hI:ko l):
 Calls eW 3 #[sl,DI] w fun e w'=>e=.returned (.bool true)∧Below w.heap.size w w':=by
 refine(((apy l hI bs) dG gv).2 (qh S w) w [sl,DI] (apA hS) (aip S w) (.cons hl (.cons hb .nil))).mono ?_;rintro e w' ⟨v,v',H',ψ,rfl,iS,Ja,rfl,rfl⟩;cases Ja;refine⟨rfl,iS.same.os,iS.same.tape,iS.same.output,iS.size,?_⟩;intro k hk;by_cases h5:k<5
 ·by_cases h0:k=0
  ·subst h0;exact KA iS.rel iS.same (iS.le _ _ (wA h5)) gv.mj hS.t0
  ·by_cases h1:k=1
   ·subst h1;exact KA iS.rel iS.same (iS.le _ _ (wA h5)) gv.mZ hS.t1
   ·by_cases h4:k=4
    ·subst h4;exact KA iS.rel iS.same (iS.le _ _ (wA h5)) gv.qn hS.t4
    ·exact(iS.iU (wA h5) (by rw[lq,au h4,au h1,au h0])).2
 ·refine iS.kR hk fun b l' e1 e2=>?_
  obtain⟨h1,rfl⟩:=sJ e1;have e2:b=k:=e2;omega
theorem ack{φ:aO}:∀l:List Int,bC φ (l.map fun z=>V.int .i64 z) (l.map fun z=>Value.int .i64 z)
 |[]=>.nil
 |z::l=>.cons (.int _ _) (ack l)
def sV:List dc→List Value
 |[]=>[]
 |s::l=>.string ⟨⟨s.1⟩⟩:: .string ⟨⟨s.2⟩⟩::sV l
theorem acm{φ:aO}:∀l:List dc,bC φ (gB ek l) (sV l)
 |[]=>.nil
 |s::l=>.cons (.str _) (.cons (.str _) (acm l))
theorem Lt(c o i:Nat):(Addr.add ⟨c,o,none⟩ i)=⟨c,o+i,none⟩:=by
 unfold Addr.add;split
 ·rename_i e;rw[e];rfl
 ·rfl
theorem abt{W:World}{c o:Nat}{sp:Option Nat}{v:Value}(h:W.cell? ⟨c,o,sp⟩=some v):sp=none:=by
 unfold World.cell? at h;cases sp with
 |none=>rfl
 |some s=>split at h<;>simp at h
theorem afV{W:World}{c o:Nat}{v:Value}(h:W.cell? ⟨c,o,none⟩=some v):∃cs t fr,W.heap[c]? =some (.cells cs t fr):=by
 unfold World.cell? at h;split at h
 ·rename_i e;exact⟨_,_,_,e⟩
 ·cases h
theorem Dy{W:World}{c o:Nat}{v:Value}{x:Obj}(hx:W.heap[c]? =some x)(h:W.cell? ⟨c,o,none⟩=some v):Obj.at x o v:=by
 intro w j hj;unfold World.cell? at h⊢;simp only[hx]at h;simp only[hj];exact h
def Ll(W:World)(sl:Value):Prop:=sl=.slice none 0 0∨∃(a:Addr) (len cap:Nat) (zs:List Int),sl=.slice (some a) len cap∧len=zs.length∧len≤cap∧(∀i,i<zs.length→W.cell? (a.add i)=some (.int .i64 (zs.getD i 0)))∧ko zs
def Lj(W:World)(sl:Value):Prop:=sl=.slice none 0 0∨∃(a:Addr) (len cap:Nat) (gp oJ:Nat→ByteArray),sl=.slice (some a) len cap∧len≤cap∧(∀i,i<len→W.cell? (a.add (i*2))=some (.string (gp i))∧W.cell? (a.add (i*2+1))=some (.string (oJ i)))
theorem aq2(gp oJ:Nat→ByteArray):∀n,sV ((lS n).map fun i=>((gp i).data.toList,(oJ i).data.toList))=(lS n).flatMap fun i=>[.string (gp i),.string (oJ i)]:=by
 have hb:∀b:ByteArray,(⟨⟨b.data.toList⟩⟩:ByteArray)=b:=fun b=>by cases b;rfl
 have aiX:∀a b:List dc,sV (a++b)=sV a++sV b:=by
  intro a b;induction a with
  |nil=>rfl
  |cons s a ih=>simp only[fm,sV,ih]
 intro n;induction n with
 |zero=>rfl
 |succ n ih=>
  rw[List.range_succ,List.map_append,aiX,ih,List.flatMap_append];simp only[List.map_cons,List.map_nil,sV,List.flatMap_cons,List.flatMap_nil,fA,hb]
theorem aos(gp oJ:Nat→ByteArray):∀(n i:Nat) (v:Value),((lS n).flatMap fun i=>[Value.string (gp i),.string (oJ i)])[i]? =some v→i<n*2∧v=if i%2=0 then .string (gp (i/2))else .string (oJ (i/2)):=by
 intro n;induction n with
 |zero=>intro i v h;cases h
 |succ n ih=>
  intro i v h;rw[List.range_succ,List.flatMap_append]at h;have hl:((lS n).flatMap fun i=>[Value.string (gp i),.string (oJ i)]).length=n*2:=by
   clear ih h;induction n with
   |zero=>rfl
   |succ n ih=>rw[List.range_succ,List.flatMap_append,bt,ih];simp;omega
  by_cases hi:i<n*2
  ·rw[k3 aa]at h;obtain⟨h1,h2⟩:=ih i v h;exact⟨aa,h2⟩
  ·rw[pI aa,hl]at h;simp only[List.flatMap_cons,List.flatMap_nil,fA]at h;obtain⟨j,hj⟩:∃j,i=n*2+j:=⟨i-n*2,aa⟩;subst hj;rw[Nat.add_sub_cancel_left]at h
   match j,h with
   |0,h=>
    cases h;exact⟨aa,by rw[ay aa,(aa:(n*2+0)/2=n)]⟩
   |1,h=>
    cases h;exact⟨aa,by rw[au aa,(aa:(n*2+1)/2=n)]⟩
   |j+2,h=>simp at h
theorem aex{W:World}(hn:5≤W.heap.size)(h0:kJ W 0 .u64 mj)(h1:kJ W 1 .u8 mZ)(h4:kJ W 4 .u8 qn){sl sb:Value}(hs:Ll W sl)(hb:Lj W sb):
 Calls eW 3 #[sl,.agg #[sb]] W fun e w'=>e=.returned (.bool true)∧Below W.heap.size W w':=by
 have i0:ko []:=fun _ h=>by cases h
 have aba:∀ {c o:Nat}{v:Value},W.cell? ⟨c,o,none⟩=some v→(∀k z,v=.int k z→k=.i64)→(∃cs t fr,W.heap[c]? =some (.cells cs t fr))∧c≠0∧c≠1∧c≠4:=fun{c o v} h hk=>by
  refine⟨afV h,fun e=>?_,fun e=>?_,fun e=>?_⟩
  ·subst e;obtain⟨z,hz⟩:=h0.kind h;exact absurd (hk _ _ hz) aj
  ·subst e;obtain⟨z,hz⟩:=h1.kind h;exact absurd (hk _ _ hz) aj
  ·subst e;obtain⟨z,hz⟩:=h4.kind h;exact absurd (hk _ _ hz) aj
 have amY:∃(S:List Nat) (zs:List Int),(∀c∈S,(∃cs t fr,W.heap[c]? =some (.cells cs t fr))∧c≠0∧c≠1∧c≠4)∧ko zs∧∀S',(∀c∈S,c∈S')→aS (qh S' W) (lN zs) sl:=by
  rcases hs with rfl|⟨a,len,cap,zs,rfl,rfl,hcap,hc,hI⟩
  ·exact⟨[],[],fun _ h=>(by cases h),i0,fun S' _=>.e4 none 0 fun _=>rfl⟩
  ·cases zs with
   |nil=>exact⟨[],[],fun _ h=>(by cases h),i0,fun S' _=>.e4 (some a) cap fun h=>(by cases h)⟩
   |cons z zs=>
    have hcell:W.cell? a=some (.int .i64 z):=hc 0 (nh _);obtain⟨c,o,sp⟩:=a;obtain rfl:=abt hcell;have hno:=aba hcell (fun k y h=>by cases h;rfl);obtain⟨cs,t,fr,sq⟩:=hno.1;refine⟨[c],z::zs,fun c' h=>(by rw[dH.1 h];exact hno),hI,fun S' I7=>?_⟩;refine .row (x:=.cells cs t fr) (by show ud S' W c=_;unfold ud;rw[ay (I7 c aJ),sq]) (ack _) ?_ hcap;intro i v hv;rw[qE]at hv;cases hz:(z::zs)[i]? with
    |none=>rw[hz]at hv;cases hv
    |some u=>
     rw[hz]at hv;cases hv;have hi:i<(z::zs).length:=(fo.1 hz).1;have h1:=hc i hi;rw[c_,hz,Lt]at h1;exact Dy sq h1
 have aew:∃(S:List Nat) (bs:List dc),(∀c∈S,(∃cs t fr,W.heap[c]? =some (.cells cs t fr))∧c≠0∧c≠1∧c≠4)∧∀S',(∀c∈S,c∈S')→aS (qh S' W) (ej ek bs) sb:=by
  rcases hb with rfl|⟨a,len,cap,gp,oJ,rfl,hcap,hc⟩
  ·exact⟨[],[],fun _ h=>(by cases h),fun S' _=>.e4 none 0 fun _=>rfl⟩
  ·cases len with
   |zero=>exact⟨[],[],fun _ h=>(by cases h),fun S' _=>.e4 (some a) cap fun h=>(by cases h)⟩
   |succ n=>
    have hcell:W.cell? a=some (.string (gp 0)):=(hc 0 (nh _)).1;obtain⟨c,o,sp⟩:=a;obtain rfl:=abt hcell;have hno:=aba hcell (fun k y h=>by cases h);obtain⟨cs,t,fr,sq⟩:=hno.1;refine⟨[c],(lS (n+1)).map fun i=>((gp i).data.toList,(oJ i).data.toList),fun c' h=>(by rw[dH.1 h];exact hno),fun S' I7=>?_⟩;unfold ej;rw[lQ,List.length_range];refine .row (x:=.cells cs t fr) (by show ud S' W c=_;unfold ud;rw[ay (I7 c aJ),sq]) (acm _) ?_ hcap;intro i v hv;rw[aq2]at hv;obtain⟨h1,h2⟩:=aos gp oJ (n+1) i v hv;obtain⟨c0,c1⟩:=hc (i/2) aa;rw[Lt]at c0 c1;subst h2;by_cases he:i%2=0
    ·rw[ay he];rw[(aa:i/2*2=i)]at c0;exact Dy sq c0
    ·rw[au he];rw[(aa:i/2*2+1=i)]at c1;exact Dy sq c1
 obtain⟨A,zs,hA,hI,Ja⟩:=amY;obtain⟨B,bs,hB,hrb⟩:=aew;have hS:Start W (A++B):=⟨h0,h1,h4,hn,fun c hc=>by
  rcases gU.1 hc with h|h
  ·exact hA c h
  ·exact hB c h⟩
 exact amE hS (Ja _ fun c h=>gU.2 (.inl h)) (.agg (.cons (hrb _ fun c h=>gU.2 (.inr h)) .nil)) hI
open Go.ChangeShapes Go.WideShapes Go.ChangeAt Go.RowKit
def uk:List (String×DataW Unit):=[("math/bits.deBruijn64tab",Rows.laid_math_bits_deBruijn64tab),("internal/strconv.uint64pow10",Rows.laid_internal_strconv_uint64pow10),("math/bits.deBruijn32tab",Rows.laid_math_bits_deBruijn32tab)]
def vn:Array Value:=#[.slice none 0 0,.agg #[.slice none 0 0]]
theorem agL(os:Os):laidMetH Tryz.prog uk ((World.doorLaid Tryz.prog 400 os).forCall (fun _ _=>0) ⟨#[],vn,[]⟩).memory:=
 laidMetH_of_parts3 (fuel:=8) (laidMet_of_run' 8 (by kernel_rfl) (by kernel_rfl)) (by kernel_rfl) (by kernel_rfl)
theorem own:ownKnob Tryz.prog.godebug=none:=by kernel_rfl
theorem an3:Tryz.prog.inits.idxOf? 3=none:=by kernel_rfl
def xp(os:Os):World:=(World.doorLaid Tryz.prog 400 os).forCall (fun _ _=>0) ⟨#[],vn,[]⟩
theorem arP(os:Os):(xp os).variablesRefB Tryz.prog=true:=by kernel_rfl
theorem arQ(os:Os):((xp os).heap.toList.drop Tryz.prog.globals.size).take ((begin Tryz.prog (fun _ _=>0) default).world.heap.size-Tryz.prog.globals.size)=(begin Tryz.prog (fun _ _=>0) default).world.heap.toList.drop Tryz.prog.globals.size:=by kernel_rfl
theorem arR(os:Os):Input.okWideB Tryz.prog (xp os) 3 ⟨#[],vn,[]⟩=true:=by kernel_rfl
theorem arS(os:Os)(H:Type)(enc:TypeId×Value→H):Rows.treeRegionsSpec.preB enc Tryz.prog Tryz.f3 [] false (xp os).memory vn 8=true:=by kernel_rfl
theorem arT(os:Os)(H:Type)(enc:TypeId×Value→H):Rows.treeRegionsSpec.sizedB enc Tryz.prog Tryz.f3 false (xp os).memory vn 8=true:=by kernel_rfl
theorem amF:(Rows.laid_internal_strconv_uint64pow10:DataW Unit)=Lib.tabData .u64 (mj.map Int.ofNat):=by kernel_rfl
theorem amG:(Rows.laid_math_bits_deBruijn64tab:DataW Unit)=Lib.tabData .u8 (mZ.map Int.ofNat):=by kernel_rfl
theorem amH:(Rows.laid_math_bits_deBruijn32tab:DataW Unit)=Lib.tabData .u8 (qn.map Int.ofNat):=by kernel_rfl
theorem anI:b8 5 eW.globals.size=true:=by kernel_rfl
theorem apU:(lS 5).all (fun g=>(((begin eW (fun _ _=>0) default).world.heap[g]?).bind Obj.row?).isSome)=true:=by kernel_rfl
theorem ZS{W:World}(h:W.ShapedOpen eW)(g:Nat)(hg:g<5):∃cs t,W.heap[g]? =some (.cells cs t (0,0)):=by
 have h1:=List.all_eq_true.1 apU g (List.mem_range.2 hg);obtain⟨⟨zero,t⟩,hz⟩:=Option.isSome_iff_exists.1 h1;have hn:=Nat.le_of_ble_eq_true anI;obtain⟨cs,h2,_⟩:=h.1 g zero t aa hz;exact⟨cs,t,h2⟩
theorem Kz{W:World}(hsh:W.ShapedOpen eW){name:String}{g:Nat}{k:IntKind}{L:List Nat}{cs:Array Value}(hg:eW.globalNamed name=some g)(ai_:g<5)(hv:W.var? eW name=some cs)(hc:cs.toList=(L.map Int.ofNat).map fun z=>Value.int k z):kJ W g k L:=by
 obtain⟨cs',t,hh⟩:=ZS hsh g ai_;unfold World.var? at hv;rw[hg]at hv;simp only[Option.bind_some,hh,Option.some.injEq]at hv;subst hv;refine⟨t,?_⟩;rw[hh];have:cs'=sZ k L:=by
  apply rI;rw[hc];simp[sZ]
 rw[this]
theorem ZT:eW.globalNamed "internal/strconv.uint64pow10"=some 0:=by kernel_rfl
theorem BA:eW.globalNamed "math/bits.deBruijn64tab"=some 1:=by kernel_rfl
theorem ZU:eW.globalNamed "math/bits.deBruijn32tab"=some 4:=by kernel_rfl
structure Df (g:Nat) (n:Nat) (k:IntKind) (t e:TypeId):Prop where
 ty:(eW.globals[g]?).map (·.type)=some t
 ht:eW.underlying t=some (.array n e)
 he:eW.underlying e=some (.int k)
 hce:eW.cellsOf e=1
 hct:eW.cellsOf t=n
theorem ajx{H:Type}{enc:TypeId×Value→H}{P:Program}{t e:TypeId}{W W':World}{a:Option Addr}{len cap:Nat}{d:DataW H}{ps:List MemPlace}(ht:P.underlying t=some (.slice e))(he:P.underlying e=some (.int .i64))(hc:P.cellsOf e=1)
 (hb:Below W.heap.size W W') (h:DataW.Trod enc P W 0 (fun _=>true) true t (.slice a len cap) d ps):DataW.Trod enc P W' 0 (fun b=>decide (b<W.heap.size)) true t (.slice a len cap) d ps:=by
 obtain⟨fuel,hf⟩:=h;rcases open_ints ht he hc hf with⟨hcs,hx⟩|⟨x,l,c,zs,hcs,_,hl,hm,hz,hx,hcell,Jc⟩
 ·simp[Value.cells]at hcs;obtain⟨rfl,rfl,rfl⟩:=hcs;simp only[Prod.mk.injEq]at hx;obtain⟨rfl,rfl⟩:=hx;exact Go.RowKit.shut_slice_nil ht
 ·simp[Value.cells]at hcs;obtain⟨rfl,rfl,rfl⟩:=hcs;simp only[Prod.mk.injEq]at hx;obtain⟨rfl,rfl⟩:=hx;simp only[if_true]at hz;have hlt:0<zs.length→x.block<W.heap.size:=by
   intro h0;have h1:=hcell 0 h0;have h2:(x.add 0).block=x.block:=block_add x 0;unfold World.cell? at h1;rw[h2]at h1;rcases k4 x.block W.heap.size with h3|h3
   ·exact h3
   ·rw[Array.getElem?_eq_none h3]at h1;cases h1
  refine⟨2,shut_ints 0 ht he hc (ck _) hl hm ?_ ?_ Jc⟩
  ·by_cases h0:0<zs.length
   ·simp[hlt h0,hz]
   ·have:cap=0:=aa;have:len=0:=aa;simp_all
  ·intro i hi;rw[hb.cell (by rw[block_add];exact hlt aa)];exact hcell i hi
theorem wf_i64{z:Int}(h:(Lit.int .i64 z).wf=true): -9223372036854775808≤z∧z<9223372036854775808:=by
 have h':(decide (IntKind.min .i64≤z)&&decide (z≤IntKind.max .i64))=true:=h;rw[cz,decide_eq_true_eq,decide_eq_true_eq]at h';have e1:IntKind.min .i64= -9223372036854775808:=aj;have e2:IntKind.max .i64=9223372036854775807:=aj;rw[e1,e2]at h';omega
theorem afW{W W':World}(hb:Below W.heap.size W W'){a:Addr}{n:Nat}{cs:List Value}(hn:0<n)(h:W.cells? 0 a n=some cs):W'.cells? 0 a n=some cs∧a.block<W.heap.size:=by
 obtain⟨h1,h2,h3⟩:=World.cells?_some h;have hlt:a.block<W.heap.size:=by
  have e:=h3 0 hn;have e2:(a.add 0).block=a.block:=block_add a 0;rw[cH aa]at e;unfold World.cell? at e;rw[e2]at e;rcases k4 a.block W.heap.size with h4|h4
  ·exact h4
  ·rw[Array.getElem?_eq_none h4]at e;cases e
 refine⟨?_,hlt⟩;have:W'.cells? 0 a n=W.cells? 0 a n:=by
  unfold World.cells?;simp only[ck,if_true];congr 1;funext i;exact hb.cell (by rw[block_add];exact hlt)
 rw[this,h]
section
variable {H:Type}{enc:TypeId×Value→H}{P:Program}{W W':World}
theorem aor{e s:TypeId}{f0 f1:Field}{sp sp':Nat→Bool}{n:Nat}{cs:List Value}{y:DataW H×List MemPlace}(he:P.underlying e=some (.struct #[f0,f1])) (t0:f0.type=s) (t1:f1.type=s) (hs:P.underlying s=some .string)
 (h:DataW.trod enc P W 0 sp true n e cs=some y):∃n',DataW.trod enc P W' 0 sp' true n' e cs=some y:=by
 have str:∀ {n:Nat}{cs:List Value}{y:DataW H×List MemPlace},DataW.trod enc P W 0 sp true n s cs=some y→DataW.trod enc P W' 0 sp' true 1 s cs=some y:=by
  intro n cs y h;obtain⟨b,rfl,rfl,hb⟩:=DataW.trod_string hs h;simp[DataW.trod,hs,hb]
 obtain⟨y0,y1,m,rfl,hl,g0,g1⟩:=trod_struct2 he h;rw[t0]at g0;rw[t1]at g1;refine⟨2,trod_struct2_mk he hl ?_ ?_⟩
 ·rw[t0];exact str g0
 ·rw[t1];exact str g1
theorem aot{t e s:TypeId}{f0 f1:Field}{fuel:Nat}{cs:List Value}{x:DataW H×List MemPlace}(ht:P.underlying t=some (.slice e))(he:P.underlying e=some (.struct #[f0,f1])) (t0:f0.type=s) (t1:f1.type=s) (hs:P.underlying s=some .string) (ce:0<P.cellsOf e)
 (hb:Below W.heap.size W W') (h:DataW.trod enc P W 0 (fun _=>true) true fuel t cs=some x):∃n,DataW.trod enc P W' 0 (fun b=>decide (b<W.heap.size)) true n t cs=some x:=by
 rcases Go.Deep.open_slice ht h with⟨rfl,rfl⟩|⟨a,len,cap,m,n,D,Pl,rfl,_,hl,hm,hmm,rfl,hx⟩
 ·exact⟨1,by simp[DataW.trod,ht]⟩
 ·simp only[if_true]at hmm;subst hmm;have each:∀i,i<m→(∃cs n,W'.cells? 0 (a.add (i*P.cellsOf e)) (P.cellsOf e)=some cs∧DataW.trod enc P W' 0 (fun b=>decide (b<W.heap.size)) true n e cs=some (D i,Pl i))∧a.block<W.heap.size:=by
   intro i hi;obtain⟨cs',h1,h2⟩:=hx i hi;obtain⟨h3,h4⟩:=afW hb ce h1;rw[block_add]at h4;obtain⟨n',h5⟩:=aor (W':=W') (sp':=fun b=>decide (b<W.heap.size)) he t0 t1 hs h2;exact⟨⟨cs',n',h3,h5⟩,h4⟩
  by_cases h0:0<m
  ·exact Go.Deep.shut_slice_whole_cells ht (ck _) hl hm (bw (each 0 h0).2) D Pl fun i hi=>(each i hi).1
  ·have hm0:m=0:=aa;subst hm0;have aja:len=0:=aa;subst aja;by_cases hsp:a.block<W.heap.size
   ·exact Go.Deep.shut_slice_whole_cells ht (ck _) hl hm (bw hsp) D Pl fun i hi=>absurd hi (pN _)
   ·exact Go.Deep.shut_slice_cells ht (ck _) hl hm (bp hsp) D Pl fun i hi=>absurd hi (pN _)
theorem aez{t u e s:TypeId}{fb f0 f1:Field}{v:Value}{d:DataW H}{ps:List MemPlace}(hu:P.underlying u=some (.struct #[fb])) (sE:fb.offset=0) (tb:fb.type=t) (YE:P.cellsOf u=1) (YD:P.cellsOf t=1) (ht:P.underlying t=some (.slice e)) (he:P.underlying e=some (.struct #[f0,f1])) (t0:f0.type=s) (t1:f1.type=s) (o0:f0.offset=0) (o1:f1.offset=1) (hs:P.underlying s=some .string) (ce:P.cellsOf e=2) (Ba:P.cellsOf s=1)
 {vo:Array Value} (hv:v=.agg vo) (h:DataW.Trod enc P W 0 (fun _=>true) true u v d ps):
 (∃sb,v=.agg #[sb]∧Lj W sb)∧∀W',Below W.heap.size W W'→DataW.Trod enc P W' 0 (fun b=>decide (b<W.heap.size)) true u v d ps:=by
 subst hv;obtain⟨fuel,hf⟩:=h;obtain⟨y0,n,hx,hlen,g0⟩:=trod_struct1 hu hf;have hcells:(Value.agg vo).cells.toList=vo.toList:=rfl;rw[hcells,YE]at hlen;obtain⟨sb,Z7⟩:∃sb,vo.toList=[sb]:=List.length_eq_one_iff.1 hlen;have has:vo=#[sb]:=by cases vo;simp_all
 subst has;rw[hcells,sE,tb,YD]at g0;simp at g0;rw[Prod.mk.injEq]at hx;obtain⟨rfl,rfl⟩:=hx;refine⟨⟨sb,rfl,?_⟩,fun W' hb=>?_⟩
 ·rcases Go.Deep.open_slice_pairs ht he ce o0 o1 (by rw[t0];exact Ba) (by rw[t1];exact Ba) g0 with⟨hc,_⟩|⟨a,len,cap,m,n',V0,V1,D0,D1,P0,P1,hc,_,hl,hm,hmm,_,hx⟩
  ·exact .inl (by simpa using hc)
  ·simp only[if_true]at hmm;subst hmm;have each:∀i,i<m→∃q:ByteArray×ByteArray,V0 i=.string q.1∧V1 i=.string q.2:=fun i hi=>by
    obtain⟨_,_,h3,h4⟩:=hx i hi;rw[t0]at h3;rw[t1]at h4;obtain⟨b0,e0,_,_⟩:=DataW.trod_string hs h3;obtain⟨b1,e1,_,_⟩:=DataW.trod_string hs h4;exact⟨(b0,b1),by simpa using e0,by simpa using e1⟩
   obtain⟨q,hq⟩:=Go.Deep.choose_lt each;refine .inr ⟨a,len,m,fun i=>(q i).1,fun i=>(q i).2,by simpa using hc,hl,fun i hi=>?_⟩;obtain⟨h1,h2,_,_⟩:=hx i aa;rw[(hq i aa).1]at h1;rw[(hq i aa).2]at h2;exact⟨h1,h2⟩
 ·obtain⟨n',g1⟩:=aot ht he t0 t1 hs aa hb g0;refine⟨n'+1,?_⟩;have:=trod_struct1_mk (enc:=enc) (w:=W') (base:=0) (spare:=fun b=>decide (b<W.heap.size)) (held:=true) (n:=n') (cs:=[sb]) (y0:=y0) hu (by rw[YE];rfl) (by rw[sE,tb,YD];exact g1);exact this
end
theorem y7:Df 0 20 .u64 462 166:=⟨by kernel_rfl,by kernel_rfl,by kernel_rfl,by kernel_rfl,by kernel_rfl⟩
theorem y8:Df 1 64 .u8 473 5:=⟨by kernel_rfl,by kernel_rfl,by kernel_rfl,by kernel_rfl,by kernel_rfl⟩
theorem y9:Df 4 32 .u8 506 5:=⟨by kernel_rfl,by kernel_rfl,by kernel_rfl,by kernel_rfl,by kernel_rfl⟩
theorem Yq:eW.cellsOf 3=1:=by kernel_rfl
theorem afP:eW.cellsOf 23=1:=by kernel_rfl
theorem afQ:eW.cellsOf 25=1:=by kernel_rfl
theorem afR:eW.cellsOf 45=2:=by kernel_rfl
theorem afS:eW.cellsOf 9=1:=by kernel_rfl
theorem arx:eW.underlying 9=some .string:=by kernel_rfl
theorem arv:eW.underlying 23=some (.slice 45):=by kernel_rfl
theorem ade:eW.underlying 25=some (.struct #[{ name:= "Sides",type:=23,offset:=0,embedded:=false,tag:= "",pkgPath:= "",byteOffset:=0 }]):=by kernel_rfl
theorem arw:eW.underlying 45=some (.struct #[{ name:= "Lo",type:=9,offset:=0,embedded:=false,tag:= "",pkgPath:= "",byteOffset:=0 }, { name:= "Hi",type:=9,offset:=1,embedded:=false,tag:= "",pkgPath:= "",byteOffset:=16 }]):=by kernel_rfl
theorem aqX{W:World}(hsh:W.ShapedOpen eW)(h:laidMet eW uk W):kJ W 0 .u64 mj∧kJ W 1 .u8 mZ∧kJ W 4 .u8 qn:=by
 obtain⟨ps,⟨g1,u1,Ba,f1,p1,q1,ai8,aje,Jb,Z2,⟨g0,bL,cs0,f0,aop,q0,ai7,ajd,aji,Z1,⟨g4,u4,aus,f4,avX,av1,ai9,ajf,ajj,Z3,_,_⟩,_⟩,_⟩,_,_⟩:=h;obtain rfl:=Option.some.inj (ZT.symm.trans ai7);obtain rfl:=Option.some.inj (BA.symm.trans ai8);obtain rfl:=Option.some.inj (ZU.symm.trans ai9);obtain rfl:=Option.some.inj (y7.ty.symm.trans ajd);obtain rfl:=Option.some.inj (y8.ty.symm.trans aje);obtain rfl:=Option.some.inj (y9.ty.symm.trans ajf);rw[amF]at Z1;rw[amG]at Z2;rw[amH]at Z3;exact⟨Kz hsh ZT aa aji (Lib.cells_of_tab y7.ht y7.he y7.hce y7.hct Z1),Kz hsh BA aa Jb (Lib.cells_of_tab y8.ht y8.he y8.hce y8.hct Z2),Kz hsh ZU aa ajj (Lib.cells_of_tab y9.ht y9.he y9.hce y9.hct Z3)⟩
theorem witness(os:Os)(H:Type)(enc:TypeId×Value→H):∃(w:World) (tape:Tape) (i:Input),w.os=os∧(w.forCall tape i).Shaped Tryz.checked.prog∧i.vars=[]∧Input.okWide Tryz.checked.prog (w.forCall tape i) .any w.heap.size 3 i∧
 ((Rows.treeRegionsSpec.pre enc Tryz.checked.prog Tryz.f3 [] false (w.forCall tape i).memory i.args∧laidMetH eW uk (w.forCall tape i).memory)∧sizedMet enc Tryz.checked.prog Tryz.f3 (OpenSpec.ofChange Rows.treeRegionsSpec) false (w.forCall tape i).memory i.args)∧Assume.holds {} Tryz.checked.prog (lone (Frame.enter Tryz.checked.prog 3 i.args .normal) [] (w.forCall tape i)):=
 ChangeSpec.witness_shaped (enc:=enc) (C:=Tryz.checked) (os:=os) (X:=fun w _=>laidMetH eW uk w) false (World.doorLaid eW 400 os) vn 8 rfl (World.shaped_of_RefB (P:=eW) (arP os) (arQ os)) (arR os) (arS os H enc) (arT os H enc) (agL os)
set_option maxRecDepth 100000 in
theorem lifted(os:Os)(started:os.Started)(H:Type)(enc:TypeId×Value→H):
 ReturnsInHanded {} Tryz.checked os 3 .any (fun w args=>(Rows.treeRegionsSpec.pre enc eW Tryz.f3 [] false w args∧laidMetH eW uk w)∧sizedMet enc eW Tryz.f3 (OpenSpec.ofChange Rows.treeRegionsSpec) false w args)
  (Rows.treeRegionsSpec.post enc eW Tryz.f3 false true false false):=by
 refine returnsInHanded_of_calls own started an3 (witness os H enc) ?_;intro w tape i _ hsh _ hok hpre _;obtain⟨_,_,_,fn',ai6,_,_,_,_,BB⟩:=hok;obtain rfl:fn'=Tryz.f3:=Option.some.inj (ai6.symm.trans Tryz.func3);obtain⟨⟨⟨ds,gs,before,hw0,_⟩,aiT⟩,_⟩:=hpre;have hW:=DataW.Whole.of_heap (w':=w.forCall tape i) (by rfl) hw0;have x8:laidMetH eW uk (w.forCall tape i):=aiT.of_heap (by rfl)
 suffices ai4:Calls eW 3 i.args (w.forCall tape i) fun e W'=>∃v,e=.returned v∧Rows.treeRegionsSpec.post enc eW Tryz.f3 false true false false (w.forCall tape i) i.args v W' from
  ai4.mono fun e W' ⟨v,he,hp⟩=>by subst he;exact ChangeSpec.post_blind hp
 generalize w.forCall tape i=W at hsh BB hW x8
 generalize i.args=args at BB hW
 have hval:∀(j:Nat) t v,Tryz.f3.params[j]? =some t→args[j]? =some v→Value.okWide eW W .any w.heap.size t v:=BB;have aiV:=hW;obtain⟨p,q,ZY,hV,rfl,hfz,auL⟩:=hW;have hA:DataW.TrodAll enc eW W 0 (fun _=>true) true Tryz.f3.params.toList args.toList ds p:=ZY;rw[Tryz.params3]at hA hval;obtain⟨v0,awi,d0,auy,aop,q0,hargs,rfl,rfl,h0,ao6⟩:=trodAll_cons hA;obtain⟨v1,KQ,d1,auz,p1,q1,rfl,rfl,rfl,h1,r1⟩:=trodAll_cons ao6;obtain⟨rfl,rfl,rfl⟩:=trodAll_nil r1;obtain rfl:args=#[v0,v1]:=by cases args;simp_all
 obtain⟨rfl,rfl⟩:=trodVars_none hV;obtain⟨a0,aaE,afC,rfl⟩:=okWide_slice Tryz.underlying22 (hval 0 22 v0 rfl rfl);have k0:=h0;obtain⟨atK,Jb,_⟩:=okWide_struct ade (hval 1 25 v1 rfl rfl);obtain⟨⟨sb,rfl,Z7⟩,ai3⟩:=aez ade rfl rfl afQ afP arv arw rfl rfl rfl rfl arx afR afS Jb h1;have hs:Ll W (Value.slice a0 aaE afC):=by
  obtain⟨fuel,hf⟩:=h0;rcases open_ints Tryz.underlying22 Tryz.underlying3 Yq hf with⟨hcs,_⟩|⟨x,l,c,zs,hcs,_,hl,hm,hz,_,hcell,Jc⟩
  ·simp[Value.cells]at hcs;obtain⟨rfl,rfl,rfl⟩:=hcs;exact .inl rfl
  ·simp[Value.cells]at hcs;obtain⟨rfl,rfl,rfl⟩:=hcs;simp only[if_true]at hz;refine .inr ⟨x,_,_,zs.take aaE,rfl,?_,hl,fun i hi=>?_,fun z h=>?_⟩
   ·rw[ep];omega
   ·rw[ep]at hi;have h:=hcell i aa;rw[c_,List.getElem?_take,ay aa,←c_];exact h
   ·exact wf_i64 (Jc z (ve h))
 have aiU:laidMet eW uk W:=by
  rw[MakeChecks.laidMetH_plain _ _ _ (by kernel_rfl)]at x8;exact x8
 clear ZY BB;obtain⟨t0,t1,t4⟩:=aqX hsh aiU;have hn:5≤W.heap.size:=by
  obtain⟨cs,t,h⟩:=ZS hsh 4 aj;have:=(uX.1 h).1;omega
 refine(aex hn t0 t1 t4 hs Z7).mono fun e W' ⟨he,DA⟩=>?_
 subst he;exact⟨_,rfl,_,_,_,[],_,[],aiV,trodAll_mk1 (shut_bool Tryz.underlying4 _),trodAll_mk2 (ajx Tryz.underlying22 Tryz.underlying3 Yq DA k0) (ai3 W' DA),rfl,DA.frame _,fun h=>by cases h⟩
open Go
theorem ajE:(Rows.treeRegionsRow.wf (OpenSpec.ofChange Rows.treeRegionsSpec))=true:=by kernel_rfl
theorem ajP:(mapsRowed Tryz.prog)=true:=by kernel_rfl
theorem aj0:(Tryz.f3.params.all (Tryz.prog.readableRec ·))=true:=by kernel_rfl
theorem aj3:(namedTie Tryz.prog Rows.treeRegionsRow.named Rows.treeRegionsSpec.vars)=true:=by kernel_rfl
theorem aj4:((Rows.treeRegionsRow.stops==[]))=true:=by kernel_rfl
theorem aj5:((Tryz.prog.stops==[]))=true:=by kernel_rfl
theorem aj6:((Rows.treeRegionsRow.knobs==[]))=true:=by kernel_rfl
theorem aj7:((Tryz.prog.stopKnobs==[]))=true:=by kernel_rfl
theorem aj8:((Rows.treeRegionsRow.inPlace==Tryz.prog.inPlace 3))=true:=by kernel_rfl
theorem ajF:((Rows.treeRegionsRow.unfollowed==Tryz.prog.unfollowed 3))=true:=by kernel_rfl
theorem ajG:((Rows.treeRegionsRow.recurses==Tryz.prog.recurses 3))=true:=by kernel_rfl
theorem ajH:((Rows.treeRegionsRow.named==Tryz.prog.varsNamed 3))=true:=by kernel_rfl
theorem ajI:((Rows.treeRegionsRow.maps==(Tryz.f3.params.toList++Rows.treeRegionsSpec.plain.varTypes Tryz.prog).any (Tryz.prog.mapsRec ·)))=true:=by kernel_rfl
theorem ajJ:((Rows.treeRegionsRow.ifaces==(Tryz.f3.params.toList++Rows.treeRegionsSpec.plain.varTypes Tryz.prog).any (Tryz.prog.ifacesRec ·)))=true:=by kernel_rfl
theorem ajK:((Rows.treeRegionsRow.mapsOut==Tryz.prog.mapsAmong Tryz.f3.resultTypes.toList))=true:=by kernel_rfl
theorem ajL:((Rows.treeRegionsRow.loops==(Tryz.f3.params.toList++Rows.treeRegionsSpec.plain.varTypes Tryz.prog).any (Tryz.prog.loopsFrom ·)))=true:=by kernel_rfl
theorem ajM:((Rows.treeRegionsRow.wideKeys==(Tryz.f3.params.toList++Rows.treeRegionsSpec.plain.varTypes Tryz.prog++Tryz.f3.resultTypes.toList).any (Tryz.prog.wideKeysFrom ·)))=true:=by kernel_rfl
theorem ajN:(Rows.treeRegionsSpec.vars.all (Tryz.prog.varReadable ·))=true:=by kernel_rfl
theorem ajO:(Tryz.f3.resultTypes.all (fun t=>Tryz.prog.readableRec t&&decide (t<Tryz.prog.types.size)))=true:=by kernel_rfl
theorem ajQ:((Rows.treeRegionsRow.ifacesOut==Tryz.f3.resultTypes.toList.any (Tryz.prog.ifacesRec ·)))=true:=by kernel_rfl
theorem ajR:((Rows.treeRegionsRow.loopsOut==Tryz.f3.resultTypes.toList.any (Tryz.prog.loopsFrom ·)))=true:=by kernel_rfl
theorem ajS:((Rows.treeRegionsRow.plainKeys==Tryz.prog.plainKeys))=true:=by kernel_rfl
theorem ajT:(Rows.treeRegionsRow.shortTexts.isNone)=true:=by kernel_rfl
theorem ajU:(Tryz.prog.stopsHeard)=true:=by kernel_rfl
theorem ajV:(Tryz.prog.mayEnter)=true:=by kernel_rfl
theorem ajW:((Rows.treeRegionsRow.lifted==Tryz.prog.liftsFinal))=true:=by kernel_rfl
theorem ajX:((Tryz.prog.make==some Rows.treeRegionsRow.make))=true:=by kernel_rfl
theorem ajY:((Rows.treeRegionsRow.kinds==(if Rows.treeRegionsRow.domain.isEmpty then []else Tryz.f3.params.toList.map fun t=>match Tryz.prog.underlying t with|some (.int k)=>some k|_=>none)))=true:=by kernel_rfl
theorem ajZ:((Rows.treeRegionsRow.pinned==Rows.treeRegionsRow.pinnedBy))=true:=by kernel_rfl
theorem aj1:((Rows.treeRegionsRow.veiled==(Tryz.f3.params.toList++Rows.treeRegionsSpec.plain.varTypes Tryz.prog++Tryz.f3.resultTypes.toList).any (Tryz.prog.veiledRec ·)))=true:=by kernel_rfl
theorem aj2:(Rows.treeRegionsRow.veiledFits Tryz.prog Tryz.f3.params.toList (Tryz.f3.params.toList++Rows.treeRegionsSpec.plain.varTypes Tryz.prog++Tryz.f3.resultTypes.toList))=true:=by kernel_rfl
def wG(a n:Nat):Bool:=Nat.rec (motive:=fun _=>Bool) true (fun k ih=>and (rowFine Tryz.prog (a+k)) ih) n
theorem Co{a:Nat}:∀ {n:Nat},wG a n=true→∀t,a≤t→t<a+n→rowFine Tryz.prog t=true:=by
 intro n;induction n with
 |zero=>intro _ t h1 h2;omega
 |succ n ih=>
  intro h t h1 h2;have h':and (rowFine Tryz.prog (a+n)) (wG a n)=true:=h;rw[Bool.and_eq_true]at h';by_cases e:t=a+n
  ·subst e;exact h'.1
  ·exact ih h'.2 t h1 (by omega)
theorem an7:Tryz.prog.types.size=529:=by kernel_rfl
theorem ahM:wG 0 133=true:=by kernel_rfl
theorem ahN:wG 133 133=true:=by kernel_rfl
theorem ahO:wG 266 133=true:=by kernel_rfl
theorem ahP:wG 399 133=true:=by kernel_rfl
theorem ahR:Tryz.prog.globals.all (fun g=>decide (g.type<Tryz.prog.types.size))=true:=by kernel_rfl
theorem ahQ:Tryz.prog.funcs.all (fun f=>f.params.all fun t=>decide (t<Tryz.prog.types.size))=true:=by kernel_rfl
theorem laidOut:laidOutB Tryz.prog=true:=by
 unfold laidOutB;rw[ahR,ahQ,Bool.and_true,Bool.and_true,List.all_eq_true];intro t ht;rw[List.mem_range,an7]at ht;rcases Nat.lt_or_ge t 133 with h|h
 ·exact Co ahM t (by omega) (by omega)
 rcases Nat.lt_or_ge t 266 with h|h
 ·exact Co ahN t (by omega) (by omega)
 rcases Nat.lt_or_ge t 399 with h|h
 ·exact Co ahO t (by omega) (by omega)
 ·exact Co ahP t (by omega) (by omega)
theorem aa9:Tryz.prog.funcs.any Func.goes=false:=by kernel_rfl
theorem an2(g:Nat):(Tryz.prog.funcs[g]?).any Func.goes=false:=by
 cases h:Tryz.prog.funcs[g]? with
 |none=>rfl
 |some fn=>
  have h1:=Array.any_eq_false.1 aa9;obtain⟨hg,rfl⟩:=Array.getElem?_eq_some_iff.1 h;have h2:=h1 g hg;simpa using h2
theorem air(f:FuncId):Tryz.prog.goes f=false:=by
 unfold Program.goes;rw[aa9,Bool.and_false,Bool.or_false,List.any_eq_false];intro g _;rw[an2];decide
theorem apR:Tryz.pinned.checked.prog.funcNamed Rows.treeRegionsRow.func=some 3:=by kernel_rfl
theorem apQ:Tryz.f3.isInstance Tryz.pinned.checked.prog Rows.treeRegionsRow.origin Rows.treeRegionsRow.targs:=of_decide_eq_true (by kernel_rfl)
theorem apT:Tryz.f3.isWrapper Tryz.pinned.checked.prog Rows.treeRegionsRow.wrapper Rows.treeRegionsRow.mainSum:=by
 unfold Func.isWrapper
 first|(rw[if_pos (by decide+kernel)];kernel_rfl)|(rw[if_neg (by decide+kernel)];exact⟨rfl,rfl⟩)
theorem ad1{b0 b1 b2 L5 L8 L9 L_ Ma Mb Mc LK LL LM LN LO LP LQ LR LS LU LV LW LX LY LZ L0 L1 L2 L3 L4 L6 L7:Bool}(h0:b0=true)(h1:b1=true)(h2:b2=true)(h3:L5=true)(h4:L8=true)(h5:L9=true)(h6:L_=true)(h7:Ma=true)(h8:Mb=true)(h9:Mc=true)(h10:LK=true)(h11:LL=true)(h12:LM=true)(aiz:LN=true)(aiA:LO=true)(aiB:LP=true)(aiC:LQ=true)(aiD:LR=true)(aiE:LS=true)(aiF:LU=true)(aiG:LV=true)(aiH:LW=true)(aiI:LX=true)(h23:LY=true)(aiJ:LZ=true)(aiK:L0=true)(aiL:L1=true)(aiM:L2=true)(aiN:L3=true)(aiO:L4=true)(aiP:L6=true)(aiQ:L7=true):(b0&&b1&&b2&&L5&&L8&&L9&&L_&&Ma&&Mb&&Mc&&LK&&LL&&LM&&LN&&LO&&LP&&LQ&&LR&&LS&&LU&&LV&&LW&&LX&&LY&&LZ&&L0&&L1&&L2&&L3&&L4&&L6&&L7)=true:=by
 subst h0 h1 h2 h3 h4 h5 h6 h7 h8 h9 h10 h11 h12 aiz aiA aiB aiC aiD aiE aiF aiG aiH aiI h23 aiJ aiK aiL aiM aiN aiO aiP aiQ;rfl
set_option maxRecDepth 100000 in
theorem apP:joinedFacts Tryz.prog 3 Tryz.f3 Rows.treeRegionsSpec Rows.treeRegionsRow=true:=
 ad1 ajE laidOut ajP aj0 aj3 aj4 aj5 aj6 aj7 aj8 ajF ajG ajH ajI ajJ ajK ajL ajM ajN ajO ajQ ajR ajS ajT ajU ajV ajW ajX ajY ajZ aj1 aj2
theorem afK:Rows.treeRegionsRow.wfByText (OpenSpec.ofChange Rows.treeRegionsSpec)=true:=by kernel_rfl
theorem afH:Tryz.pinned.checked.prog.mainIs=some (true,"4c8dd576b03dcf5da98673c7924642f499d014415c0c6d845c2075c951f41aec".toList):=by kernel_rfl
theorem afI:Tryz.prog.funcNamed "sosopt/sosoptlaw40.TreeRegions"=some 3:=by kernel_rfl
theorem afF:false=Tryz.pinned.checked.prog.looks []:=by kernel_rfl
theorem afJ:([22,25].all fun u=> !Tryz.prog.wantsStandIn u)=true:=by kernel_rfl
theorem afG:∀f fn,Tryz.pinned.checked.prog.funcNamed Rows.treeRegionsRow.func=some f→Tryz.pinned.checked.prog.funcs[f]? =some fn→false=Tryz.pinned.checked.prog.looks []∧∀(j:Nat) t,fn.params[j]? =some t→Tryz.pinned.checked.prog.wantsStandIn t=false:=by
 intro f fn hf hfn;obtain rfl:f=3:=Option.some.inj (afI.symm.trans hf)|>.symm;obtain rfl:fn=Tryz.f3:=(Option.some.inj (Tryz.func3.symm.trans hfn)).symm;refine⟨afF,fun j t ht=>?_⟩;rw[Tryz.params3]at ht;have hm:t∈[22,25]:=by simpa using Array.mem_of_getElem? ht
 show Tryz.prog.wantsStandIn t=false;simpa using List.all_eq_true.1 afJ t hm
theorem ad3(o:Option FuncId):(o.any Tryz.prog.goes||false)=false:=by
 cases o with
 |none=>rfl
 |some f=>rw[Option.any_some,air];rfl
theorem afE:false=Rows.treeRegionsRow.goesBy Tryz.pinned.checked.prog:=(ad3 (Tryz.prog.funcNamed Rows.treeRegionsRow.func)).symm
theorem treeRegions_holds:Rows.treeRegionsRow.holds Tryz.pinned (OpenSpec.ofChange Rows.treeRegionsSpec):=
 OpenClaim.holds_of_wide 3 Tryz.f3 rfl rfl rfl rfl rfl rfl rfl ⟨rfl,rfl,rfl,rfl,rfl⟩ rfl rfl rfl rfl rfl apR Tryz.func3 apP apQ apT
  (fun os started H enc _=>lifted os started H enc)
theorem card_holds:Rows.TreeRegionsCardSaid:=
 Claim7.holds_tied_plain_at .later [] [.data,.data,.data] true (true,"4c8dd576b03dcf5da98673c7924642f499d014415c0c6d845c2075c951f41aec") false
  treeRegions_holds (fun _ h=>by cases h) afK (fun _ h=>by cases h) treeRegions_row_tie rfl ⟨rfl,rfl⟩ afH rfl afG afE
end Go.Proofs.YtddhncjmaahodaaGreatDoor
