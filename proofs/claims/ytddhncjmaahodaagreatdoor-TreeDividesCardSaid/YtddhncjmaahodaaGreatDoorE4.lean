/- Towards the law TreeDivides: lemmas on the evaluator of the model's code, plain laws of numbers, walks of the program's functions, the card. No conditions. -/
import Derived.Test.YtddhncjmaahodaaGreatDoorE3
import Derived.Below
import Derived.ProofKit
import Derived.Test.YtddhncjmaahodaaGreatDoorRows
import Derived.Lib.LaidTab
import Derived.Carry
import Derived.ChangeSlices
import Derived.Deep.SlicePairs
import Derived.Handed
import Derived.RowKit
set_option linter.all false
noncomputable section
open Array renaming ext'→uM
open Bool renaming and_eq_true→cC,eq_false_iff→lq,false_eq_true→iM,not_false→je,not_true→fX
open Go.Proofs.Tryz renaming f45→kZ,prog→eO
open Int renaming natAbs_neg→mY,ofNat_lt→oc,toNat_natCast→bH
open List renaming append_assoc→fl,append_nil→fN,cons_append→eL,drop_eq_getElem_cons→lz,drop_of_length_le→jF,eq_nil_of_length_eq_zero→oP,ext_getElem?→uQ,getD_eq_getElem?_getD→cy,getElem?_append_left→p8,getElem?_append_right→tv,getElem?_drop→uR,getElem?_eq_getElem→cx,getElem?_eq_none→m0,getElem?_eq_some_iff→gZ,getElem?_map→iW,getElem?_range→tw,getElem?_set→r7,getElem_mem→wB,length_append→aV,length_cons→cV,length_drop→g5,length_map→iu,length_nil→kS,length_set→gE,length_singleton→gP,length_take→dP,length→kD,mem_append→hN,mem_cons→jr,mem_map→kT,mem_of_getElem?→eN,mem_of_mem_take→uS,mem_singleton→ec,merge→r8,nil_append→eE,not_mem_nil→q3,pairwise_append→wD,pairwise_cons→tA,range'→tB,range→p_,replicate→aW,take_append_of_le_length→wE,take_left'→r9,take_left→q4,take_of_length_le→b8,take_succ_eq_append_getElem→kU,take_zero→q5
open Nat renaming add_assoc→mo,add_comm→js,add_mul→eu,add_sub_cancel→q7,add_zero→cG,beq_refl→tC,beq→bn,ble→bL,le_of_ble_eq_true→kV,le_of_lt→hO,le_refl→aF,le_trans→cH,lt_of_le_of_lt→e_,lt_of_lt_of_le→eF,lt_or_ge→oe,lt_succ_self→mq,lt_trans→qg,min_eq_left→m4,mul_div_cancel→uU,mul_le_mul→jX,mul_one→ef,mul_zero→fy,mul→eM,not_lt_zero→m5,one_mul→iP,reduceEqDiff→kW,succ_mul→oR,succ_ne_zero→sj,succ_pos→m7,zero_add→eJ,zero_le→b4,zero_mul→jg
open Option renaming none→aJ
open Rat renaming divInt_ofNat→uZ,divInt→nM
namespace Go.Proofs.YtddhncjmaahodaaGreatDoor
open Go.au Go.aD
@[go_sem]theorem avC(n:Nat)(l:List (List ax)):aZ (cB n l)=true:=rfl
@[go_sem]theorem auS(n:Nat)(l:List (List ax)):cellsOf (cB n l)=[cB n l]:=rfl
@[go_sem]theorem awo(n:Nat)(l:List (List ax)):V.one (cB n l)=true:=rfl
@[go_sem]theorem avq(n:Nat):aZ (e9 n)=true:=rfl
@[go_sem]theorem auJ(n:Nat):cellsOf (e9 n)=[e9 n]:=rfl
@[go_sem]theorem awf(n:Nat):V.one (e9 n)=true:=rfl
theorem DE(n:Nat):∀l,cK (fW n l)=true
 |[]=>rfl
 |p::l=>by
  rw[rj];intro v a;rw[fW]at a;rcases hN.1 a with h|h
  ·exact rj.1 (show cK (bS n p)=true from rfl) v h
  ·exact rj.1 (DE n l) v h
theorem D9(n:Nat)(a b:List (List ax))(c:a.length≤1000)(d:b.length≤1000):aS 155 [.row 2 [cB n a,cB n b]] (cB n (a++b)):=by
 have h:=UG (fW n a) (fW n b) a.length b.length (rY n a) (rY n b) (Bs n a) (Bs n b) (DE n a) (DE n b) ⟨c,d⟩;rw[←wk,←aV]at h;exact h
def IA(n:Nat)(o:List ax)(f e s:List (List ax))(a b c:Nat)(d:Fr)(k:Nat)(F:Fr)(H:af):Prop:=∃i:Nat,k=s.length-i∧i≤s.length∧(∀t,t<10→rd t F=rd t d)∧rd a F=cB n s∧rd b F=ah (s.length:Int)∧rd c F=ah (i:Int)∧
 H.get 5=.cells (iw n o f e) 0∧H.get 6=.cells [.ak,ah 0,.ak,.ak,.ak] 0∧GT H∧7≤H.next
theorem agW(n:Nat)(Q:n=1∨n=2)(o:List ax)(h d s:List (List ax))(M:∀q∈s,iX n q)(S:s.length≤1000)(F:Fr)(H:af)(R:X→Fr→af→Prop)
 (z:rd 21 F=cB n s) (A:rd 22 F=ah (s.length:Int)) (B:rd 23 F=ah 0) (C:H.get 5=.cells (iw n o h d) 0) (D:H.get 6=.cells [.ak,ah 0,.ak,.ak,.ak] 0) (G:GT H) (K:7≤H.next)
 (E:∀j a,(∀t,t<10→rd t j=rd t F)→a.get 5=.cells (iw n o h d) 0→a.get 6=.cells [.ak,ah 0,.ak,.ak,.ak] 0→GT a→7≤a.next→R (.exit 0) j a):bw (.loop (pc 101 3)) R F H:=by
 refine bK (IA n o h d s 21 22 23 F) s.length ⟨0,rfl,b4 _,fun _ _=>rfl,z,A,B,C,D,G,K⟩ ?_;rintro m O k ⟨i,rfl,P,v,l,b,c,x,y,r,L⟩;rw[U7];by_cases J:i<s.length
 ·obtain⟨q,w⟩:∃q,s[i]? =some q:=⟨s[i],cx J⟩;have f:=zN n aa q (M q (eN w));have p:=uK (n:=n) w;have e:decide ((i:Int)<((s.length:Nat):Int))=true:=bm aa;have N:aB .i64 ((i:Int)+1)=((i+1:Nat):Int):=by rw[aI _ aa];rfl
  unfold gv at f;simp only[bS]at p f;have u:GT ((k.push (.cells [ah 0,.ak] 0)).set k.next (.cells [ah (n:Int),eD q] 0)):=(r.push aa _).set aa _
  simp(disch:=omega)only[go_sem,KI,U0,l,b,c,e,tY,bH,p];refine ck f u ?_;simp only[go_sem,UZ,fX,c,N];refine⟨s.length-(i+1),aa,i+1,rfl,aa,fun t g=>?_,?_,?_,?_,?_,?_,u,?_⟩
  ·simp(disch:=omega)only[bU];exact v t g
  iterate 3 simp only[go_sem,l,b]
  ·rw[af.aK,aj aa,af.aY,aj aa,x]
  ·rw[af.aK,aj aa,af.aY,aj aa,y]
  ·simp only[go_sem];omega
 ·have I:i=s.length:=aa;subst I;have e:decide (((s.length:Nat):Int)<((s.length:Nat):Int))=false:=a_ aa;simp only[go_sem,KI,b,c,e];exact E _ _ (fun t g=>by simp(disch:=omega)only[bU];exact v t g) x y r L
theorem agX(n:Nat)(T:n=1∨n=2)(o:List ax)(j e s:List (List ax))(U:s.length≤1000)(F:Fr)(H:af)(R:X→Fr→af→Prop)
 (y:rd 3 F=.ptr 5 0) (z:rd 32 F=cB n s) (A:rd 33 F=ah (s.length:Int)) (B:rd 34 F=ah 0) (C:H.get 5=.cells (iw n o j e) 0) (D:H.get 6=.cells [.ak,ah 0,.ak,.ak,.ak] 0) (G:GT H) (M:7≤H.next)
 (E:∀l a,(∀t,t<10→rd t l=rd t F)→a.get 5=.cells (iw n o j e) 0→a.get 6=.cells [.ak,ah 0,.ak,.ak,.ak] 0→GT a→7≤a.next→R (.exit 2) l a):bw (.loop (pc 101 7)) R F H:=by
 refine bK (IA n o j e s 32 33 34 F) s.length ⟨0,rfl,b4 _,fun _ _=>rfl,z,A,B,C,D,G,M⟩ ?_;rintro m w b ⟨i,rfl,S,g,p,c,d,k,v,u,N⟩;have x:rd 3 w=.ptr 5 0:=by rw[g 3 ag];exact y
 rw[U_];by_cases K:i<s.length
 ·obtain⟨q,O⟩:∃q,s[i]? =some q:=⟨s[i],cx K⟩;have r:=uK (n:=n) O;have f:decide ((i:Int)<((s.length:Nat):Int))=true:=bm aa;have Q:aB .i64 ((i:Int)+1)=((i+1:Nat):Int):=by rw[aI _ aa];rfl
  have L:c3 (e9 n)=some (.val (ah (n:Int))):=rfl;have P:¬b.next=5:=aa
  have I:GT ((b.push (.cells [ah 0,.ak] 0)).set b.next (.cells [ah (n:Int),eD q] 0)):=(u.push aa _).set aa _
  simp only[bS]at r;simp(disch:=omega)only[go_sem,KJ,U9,x,p,c,d,f,tY,bH,r,k,iw,P,L,decide_true,fX];simp only[go_sem,U8,d,Q];refine⟨s.length-(i+1),aa,i+1,rfl,aa,fun t h=>?_,?_,?_,?_,?_,?_,I,?_⟩
  ·simp(disch:=omega)only[bU];exact g t h
  iterate 3 simp only[go_sem,p,c]
  ·rw[af.aK,aj aa,af.aY,aj aa,k]
  ·rw[af.aK,aj aa,af.aY,aj aa,v]
  ·simp only[go_sem];omega
 ·have J:i=s.length:=aa;subst J;have f:decide (((s.length:Nat):Int)<((s.length:Nat):Int))=false:=a_ aa;simp only[go_sem,KJ,c,d,f];exact E _ _ (fun t h=>by simp(disch:=omega)only[bU];exact g t h) k v u N
variable{a:Nat}{l:List ax}
theorem Cf(h:iX a l):tH a l:=⟨fun c b=>(h.t c b).len,h.len⟩
theorem ag6(p:fc)(h:p.az)(s:List (List ax))(z:∀q∈s,iX p.n q)(ls:s.length≤8):ew 101 [j0 p,cB p.n s,.ak] (.aA [lR p.n p.obj (p.is++s) p.es,ah 0]):=by
 have b:=h.n;have Z:=h.li;have Y:=h.le;have j:=D9 p.n s [] aa aE;have C:=D9 p.n p.is s aa aa;have k:=D9 p.n p.es [] aa aE;rw[fN]at j k;have K:=Cf (rK b ag h.obj);have J:∀q∈p.is++s,tH p.n q:=fun q hq=>by
  rcases hN.1 hq with hq|hq
  ·exact Cf (rK b ag (h.is q hq))
  ·exact Cf (z q hq)
 have I:∀q∈p.es,tH p.n q:=fun q hq=>Cf (rK b ag (h.es q hq))
 have A:=ark p.n b p.obj (p.is++s) p.es K J I (by rw[aV];omega) aa;have B:=Sj p h;unfold j0 at B;unfold lR iw at A;refine eK (.cons (tQ p b) (.cons (xl _ _) (.cons .ak .nil))) (aT ajO ?_);simp only[go_sem,d101,U6,j0];refine ck B ff ?_;simp only[go_sem,U5,fX];refine jo (b:=7) (cs:=[cB p.n s,.ak]) (args2:=[.row 2 [cB p.n s,cB p.n []]]) j ?_ ⟨0,2,.known 2,ec.2 rfl⟩ (.cons (.row (m:=2) (cs:=[cB p.n s,.ak]) ?_ ag ?_ (.cons (.same _) (.cons .fL .nil))) .nil) ?_
 ·simp only[go_sem]
 ·rw[fI (cs:=[cB p.n s,.ak]) (by simp only[go_sem])];rfl
 ·simp only[go_sem]
 have X:c3 (cB p.n s)=some (.val (ah (s.length:Int))):=rfl;have W:aZ (cB p.n s)=true:=rfl;simp only[go_sem,U4];refine agW p.n b p.obj p.is p.es s z aa _ _ _ ?_ ?_ ?_ ?_ ?_ ff ?_ ?_
 iterate 3 simp only[go_sem]
 ·simp only[go_sem];rfl
 ·simp only[go_sem]
 ·simp only[go_sem];decide
 intro d T a v w x y;have o:rd 1 d=cB p.n s:=by rw[a 1 ag];simp only[go_sem]
 have r:rd 2 d=.ak:=by rw[a 2 ag];simp only[go_sem]
 have g:rd 3 d=.ptr 5 0:=by rw[a 3 ag];simp only[go_sem]
 have t:rd 6 d=.ptr 6 0:=by rw[a 6 ag];simp only[go_sem]
 have u:rd 8 d=cB p.n s:=by rw[a 8 ag];simp only[go_sem]
 clear a;simp only[go_sem,U3,u];refine agX p.n b p.obj p.is p.es s aa _ _ _ ?_ ?_ ?_ ?_ v w x y ?_
 iterate 4 simp only[go_sem,g]
 intro e c a i L H U;have l:rd 1 e=cB p.n s:=by rw[a 1 ag];simp only[go_sem,o]
 have m:rd 2 e=.ak:=by rw[a 2 ag];simp only[go_sem,r]
 have f:rd 3 e=.ptr 5 0:=by rw[a 3 ag];simp only[go_sem,g]
 have F:rd 6 e=.ptr 6 0:=by rw[a 6 ag];simp only[go_sem,t]
 clear a o r g t u v w x y;have M:c3 V.ak=some (.val (ah 0)):=rfl;have R:aB .i64 ((p.is.length:Int)+(s.length:Int))=((p.is.length+s.length:Nat):Int):=by rw[aI _ aa];rfl
 have S:aB .i64 ((p.es.length:Int)+0)=(p.es.length:Int):=by rw[aI _ aa];omega
 have D:decide (((p.is.length+s.length:Nat):Int)>16)=false:=a_ aa;have E:decide ((p.es.length:Int)>16)=false:=a_ aa;have P:¬c.next=5:=aa
 simp only[go_sem,U2,l,m,f,i,iw,M,R,S,D,E];simp only[go_sem,U1,l,f,i,iw];refine jo (b:=c.next) (cs:=[cB p.n p.is,cB p.n s]) (args2:=[.row 2 [cB p.n p.is,cB p.n s]]) C ?_ ⟨0,2,.known 2,ec.2 rfl⟩ (.cons (.row (m:=2) (cs:=[cB p.n p.is,cB p.n s]) ?_ ag ?_ (.cons (.same _) (.cons (.same _) .nil))) .nil) ?_
 ·simp only[go_sem]
 ·rw[fI (cs:=[cB p.n p.is,cB p.n s]) (by simp only[go_sem])];rfl
 ·simp only[go_sem]
 have Q:¬c.next=6:=aa
 have N:¬c.next+1=5:=aa
 have O:¬c.next+1=6:=aa
 simp only[go_sem,Va,m,f,i,iw,P];refine jo (b:=c.next+1) (cs:=[cB p.n p.es,.ak]) (args2:=[.row 2 [cB p.n p.es,cB p.n []]]) k ?_ ⟨0,2,.known 2,ec.2 rfl⟩ (.cons (.row (m:=2) (cs:=[cB p.n p.es,.ak]) ?_ ag ?_ (.cons (.same _) (.cons .fL .nil))) .nil) ?_
 ·simp only[go_sem]
 ·rw[fI (cs:=[cB p.n p.es,.ak]) (by simp only[go_sem])];rfl
 ·simp only[go_sem]
 have G:bA (.aA [lR p.n p.obj (p.is++s) p.es,ah 0]):=.aA (.cons (vn _ b _ _ _) (.cons (.int _ _) .nil));simp only[go_sem,U',f,N];refine use A ?_;simp only[go_sem,F,L,Q,O];refine cg ?_ rfl G
 repeat' first|exact H|omega|(simp only[go_sem];omega)|refine GT.set ?_ ?_ _|refine GT.push ?_ ?_ _
section
open Go.au Go.Proofs.Tryz
set_option maxRecDepth 100000
attribute [local irreducible] rd kc ex bF bC re rg mv bN pick alloc box bi bs ba be bq st fa b6 cF cZ cQ c9 dO dN ms cY dF dD dn mx mn dm ap dy cw dr dw bY dx ext dJ neg Go.au.not dG dB dI dH dM dK dz dL dc c_ u8
def adI:=ai 372 f372 0
def adJ:=ai 372 f372 1
def adK:=ai 372 f372 2
def MI:=ai 372 f372 3
def adL:=ai 372 f372 4
def MJ:=ai 372 f372 5
def MK:=ai 372 f372 6
def d372:=aU 372 f372
def O1:=aR f372 372
end
def fC(e:List Nat):List Nat:=e++aW (6-e.length) 0
variable{d:List Nat}
theorem uo(h:d.length≤6):(fC d).length=6:=by simp[fC];omega
theorem GO(e:List Nat):(fC e).sum=e.sum:=by simp[fC]
theorem GP(e:List Nat):dg e=ct (fC e):=by simp[dg,fC,ct]
theorem al7(t:ax):aZ (nT t)=true:=rfl
theorem UB(t:ax):cellsOf (nT t)=bM t:=rfl
theorem Ux(s t:ax)(d:s.2.length≤6)(e:t.2.length≤6)(j:s.2.sum≤24)(st:t.2.sum≤24):aS 275 [nT s,nT t] (ah (ord (fC t.2) (fC s.2))):=by
 refine cM (.cons (FC s) (.cons (FC t) .nil)) (.int _ _) (aT ak4 ?_);have g:∀b,slice3 (nD 6 1) false false false [.ptr b 0]=some (.val (.slice b 0 6 (.known 6))):=fun b=>rfl
 have h:=uo d;have i:=uo e;simp only[go_sem,d275,aaS,al7,UB,g];have c:∀(H:af) (b:Nat) (u:ax),u.2.length≤6→H.get b=.cells (bM u) 0→bO H (af.zero H.next) (.slice b 0 6 (.known 6)) (bI (fC u.2)):=fun H b u a f=>by
  unfold bI;rw[uo a];refine .row (m:=6) (cs:=ct (fC u.2)) ?_ ag (af.e7 _ _) (cD.refl _);rw[fI f,dA,eZ,bM,GP,ao (by rw[aV,j5,uo a];omega),r9 (by rw[j5,uo a])]
 refine(vb (R:=fun v=>v=ah (ord (fC t.2) (fC s.2))) (.cons (c _ _ t e ?_) (.cons (c _ _ s d ?_) .nil)) ((Qj (fC t.2) (fC s.2) aa aa (by rw[GO];omega) (by rw[GO];omega) _).mono ?_)).mono ?_
 iterate 2 simp only[go_sem]
 ·rintro _ _ ⟨rfl,rfl⟩;exact⟨_,fun b=>.int _ _,rfl⟩
 ·rintro _ _ ⟨rfl,rfl⟩;simp only[go_sem]
@[go_sem]theorem auX(x y:V):sx [.func 275 [] [],x,y]=some (.fn 275,[x,y]):=rfl
variable{b:List V}
theorem Pv{d c:List V}(h:b.length=a)(e:c.length=d.length):cz c (b++d) a=some (b++c):=by
 rw[k8,ao (by rw[aV];omega),r9 h,List.drop_eq_nil_of_le (by rw[aV];omega),fN]
theorem amO{c a:List V}(h:a.length=b.length):cz a (b++c) 0=some (a++c):=by
 rw[k8,ao (by rw[aV];omega),q5,eE,eJ,List.drop_left' h.symm]
theorem B2{ys:List V}(h:b.length=a):cj (ej (b++ys) 0) a=some b:=by
 rw[dA,eZ,ao (by rw[aV];omega),r9 h]
variable{h:Nat}
theorem zm{c:List V}(d:b.length=h)(e:c.length=a):cj (ej (b++c) h) a=some c:=by
 rw[kj,List.drop_left' d,eZ,ao aa,b8 aa]
theorem RG(s t:ax)(i:s.2.length≤6)(j:t.2.length≤6)(C:s.2.sum≤24)(st:t.2.sum≤24)(H:af)(b:Nat)(c:Cap)(g:H.get b=.cells (bM s++bM t) 0):
 c5 372 [.slice b 0 2 c,ah 0,ah 2,.func 275 [] []] H fun _ q=>q=if ord (fC s.2) (fC t.2)<0 then(H.set b (.cells (bM s++bM s) 0)).set b (.cells (bM t++bM s) 0)else H:=by
 have h:=Ux t s j i st C;unfold nT at h;have d:=lU i;have n:=lU j;have k:eo none 10 [.slice b 0 2 c,ah 0]=some (.val (.ptr b 0)):=bW ag;have l:eo none 10 [.slice b 0 2 c,ah 1]=some (.val (.ptr b 10)):=bW ag;have f:=B2 (ys:=bM t) d;rw[dA]at f;have m:=zm d n;have v:aZ (.agg (bM s))=true:=rfl;have w:cellsOf (.agg (bM s))=bM s:=rfl;have bB:aZ (.agg (bM t))=true:=rfl;have x:cellsOf (.agg (bM t))=bM t:=rfl;have y:cn (bM s)=10:=by rw[gV,d]
 have z:cn (bM t)=10:=by rw[gV,n]
 have A:cz (bM s) (bM s++bM t) 10=some (bM s++bM s):=Pv d aa;have B:cz (bM t) (bM s++bM s) 0=some (bM t++bM s):=amO aa;have D:aB .i64 ((0:Int)+1)=1:=rfl;have p:aB .i64 ((1:Int)+1)=2:=rfl;have o:aB .i64 ((1:Int)-1)=0:=rfl;have d12:decide ((1:Int)<2)=true:=rfl;have d22:decide ((2:Int)<2)=false:=rfl;have u:decide ((1:Int)>0)=true:=rfl;have r:decide ((0:Int)>0)=false:=rfl;refine aT O1 ?_;simp only[go_sem,d372,MK,D];refine qV 3 ?_;rw[kE];simp only[go_sem,MJ,adL,d12];refine qV 3 ?_;rw[kE];simp only[go_sem,adK,u,o,k,l,g,f,m];refine use h ?_;by_cases a:ord (fC s.2) (fC t.2)<0
 ·rw[ao a];have e:decide (ord (fC s.2) (fC t.2)<0)=true:=bm a;simp only[go_sem,adJ,adI,e,o,k,l,g,f,m,v,w,bB,x,y,z,A,B,sr];rw[kE];simp only[go_sem,r];simp only[go_sem,MI,p];rw[kE];simp only[go_sem,d22]
 ·rw[aj a];have e:decide (ord (fC s.2) (fC t.2)<0)=false:=a_ a;simp only[go_sem,MI,e,p];rw[kE];simp only[go_sem,d22]
theorem aqC(v:V)(hl:c3 v=some (.val (ah 1)))(H:af):c5 372 [v,ah 0,ah 1,.func 275 [] []] H fun _ a=>a=H:=by
 have b:aB .i64 ((0:Int)+1)=1:=rfl;have d11:decide ((1:Int)<1)=false:=rfl;refine aT O1 ?_;simp only[go_sem,d372,MK,b];refine qV 1 ?_;rw[kE];simp only[go_sem,MJ,d11]
theorem TB:pL 5 p0 145 [ay 1] (ah 1)=true:=by kernel_rfl
theorem TC:pL 5 p0 145 [ay 2] (ah 2)=true:=by kernel_rfl
theorem TD(m:Int)(a:m=1∨m=2):aS 145 [ay m] (ah m):=by
 rcases a with rfl|rfl
 ·exact rP qW TB
 ·exact rP qW TC
theorem RH(v:V)(m:Int)(b:m=1∨m=2)(hl:c3 v=some (.val (ah m)))(H:af)(Q:af→Prop)(e:c5 372 [v,ah 0,ah m,.func 275 [] []] H fun _ a=>Q a):
 c5 274 [v,.func 275 [] []] H fun _ a=>Q a:=by
 have f:aB .u64 m=m:=by rcases b with rfl|rfl<;>rfl
 have g:aB .i64 (m-0)=m:=by rcases b with rfl|rfl<;>rfl
 have h:decide (12<m)=false:=by rcases b with rfl|rfl<;>rfl
 refine aT ak3 ?_;simp only[go_sem,d274,aaR,hl,f];refine use (TD m b) ?_;simp only[go_sem];have d:c5 334 [v,ah 0,ah m,ah m,.func 275 [] []] H fun _ a=>Q a:=by
  refine aT alm ?_;simp only[go_sem,d334,acG,acF];refine qV 1 ?_;rw[kE];simp only[go_sem,acE,acD,g,h];refine e.mono fun i a c=>?_
  simp only[go_sem];exact c
 refine d.mono fun i a c=>?_
 simp only[go_sem];exact c
def ig(t:ax):List ax:=if t.1.num=0 then []else [t]
def xh(s t:ax)(i:Nat):ax:=if i=0 then s else t
def oB(t:ax):V×V:=(.agg (dg t.2),c7 t.1)
def wq(l d:List Nat):Prop:=(l=[1,0]∧d=[])∨(l=[1]∧d=[0])∨(l=[0]∧d=[1])∨(l=[]∧(d=[0,1]∨d=[1,0]))
theorem wq.next{b:List Nat}(h:wq d b)(hi:a∈d):wq (oJ a d) (b++[a])∧a<2∧(oJ a d).length+1=d.length:=by
 rcases h with⟨rfl,rfl⟩|⟨rfl,rfl⟩|⟨rfl,rfl⟩|⟨rfl,_⟩
 ·simp only[jr,q3,or_false]at hi;rcases hi with rfl|rfl
  ·exact⟨.inr (.inr (.inl ⟨rfl,rfl⟩)),ag,rfl⟩
  ·exact⟨.inr (.inl ⟨rfl,rfl⟩),ag,rfl⟩
 ·simp only[jr,q3,or_false]at hi;subst hi;exact⟨.inr (.inr (.inr ⟨rfl,.inl rfl⟩)),ag,rfl⟩
 ·simp only[jr,q3,or_false]at hi;subst hi;exact⟨.inr (.inr (.inr ⟨rfl,.inr rfl⟩)),ag,rfl⟩
 ·cases hi
theorem wq.room{a:List Nat}(h:wq d a):d.length+a.length=2:=by
 rcases h with⟨rfl,rfl⟩|⟨rfl,rfl⟩|⟨rfl,rfl⟩|⟨rfl,rfl|rfl⟩<;>rfl
def f_(s t:ax)(d:List Nat):List ax:=d.flatMap fun i=>ig (xh s t i)
theorem PZ(t:ax):(ig t).length≤1:=by unfold ig;split<;>simp
theorem I6(s t:ax):∀d,(f_ s t d).length≤d.length
 |[]=>aF 0
 |i::d=>by
  have:=I6 s t d;have a:=PZ (xh s t i);unfold f_ at this⊢;rw[List.flatMap_cons,aV,cV];omega
theorem I7(s t:ax)(d:List Nat)(i:Nat):f_ s t (d++[i])=f_ s t d++ig (xh s t i):=by simp[f_]
theorem Tj{s t:ax}(b:s.2.length≤6)(c:t.2.length≤6)(d:List Nat):∀x∈f_ s t d,x.2.length≤6:=by
 intro x a;unfold f_ at a;obtain⟨i,_,hi⟩:=List.mem_flatMap.1 a;unfold ig at hi;split at hi
 ·cases hi
 ·rw[ec.1 hi];unfold xh;split<;>assumption
theorem Pq{a:List V}(h:b.length≤a.length):nu b a=some (b++a.drop b.length):=by
 have:=Gk (xs:=b) (l:=a) h;cases a with
 |nil=>exact this
 |cons y a=>exact this
theorem Tf(e:List Nat):cK (dg e)=true:=by rw[GP];exact yI _
variable{c:af}
theorem agE{m since last:Nat}{left:List Nat}{es:List (V×V)}{e:V×V}(f:c.get a=.cl (.iter m since left (some h) last))(g:c.get m=.cl (.map es))(hl:es.length=last)(d:es[h]? =some e):sC [.ptr a 0] c=some (.aA [e.1,e.2]):=by
 unfold sC;simp only[f];have b:c.jk m=some es:=by unfold af.jk;rw[g]
 rw[b];show aQ (bn (cn es) last) (an (cO es h) fun e=>some (V.aA [e.1,e.2]))=_;rw[gV,hl,tC,gO,d];rfl
def rZ:List V:=[ah 0,ah 0,ah 0,ah 0,ah 0,ah 0,aC,.ak,aC,.ak]
def Da(s t:ax)(N m a b:Nat)(c:af)(k:Nat)(F:Fr)(H:af):Prop:=∃(l d:List Nat) (e:Option Nat) (L:List V),k=l.length∧wq l d∧rd 40 F=.ptr a 0∧rd 8 F=.slice b 0 (f_ s t d).length (.known 2)∧
 H.get m=.cl (.map [oB s,oB t])∧H.get a=.cl (.iter m 2 l e 2)∧H.get b=.cells L 0∧L.length=20∧L.take ((f_ s t d).length*10)=gm (f_ s t d)∧(∀y,y<N→H.get y=c.get y)∧a<H.next
theorem UE(s t:ax)(hs:s.2.length≤6)(ht:t.2.length≤6)(N m a b:Nat)(b5:N≤m)(b':m<b)(bv:b<a)(w:af)(R:X→Fr→af→Prop)(k:Nat)(F:Fr)(H:af)(h:Da s t N m a b w k F H)
 (hR:∀J n d L,(d=[0,1]∨d=[1,0])→rd 8 J=.slice b 0 (f_ s t d).length (.known 2)→n.get b=.cells L 0→L.length=20→L.take ((f_ s t d).length*10)=gm (f_ s t d)→(∀y,y<N→n.get y=w.get y)→a<n.next→R (.exit 4) J n):
 bw (pc 225 12) (fD (oS (Da s t N m a b w) k) R) F H:=by
 obtain⟨l,d,ar,L,rfl,E,o,B,p,aw,C,K,D,G,a7⟩:=h;rw[Zv];simp only[go_sem,o];refine⟨a,m,2,l,ar,2,[oB s,oB t],rfl,aw,p,?_,?_⟩
 ·intro i T vx hi hl;have hil:i∈l:=by
   rcases hl with h|h
   ·exact h
   ·obtain⟨h1,_⟩:=gZ.1 hi;have:i<2:=h1;omega
  obtain⟨M,b1,b2⟩:=E.next hil
  obtain⟨u,j⟩:∃u,xh s t i=u:=⟨_,rfl⟩;have v:u.2.length≤6:=by rw[←j];unfold xh;split<;>assumption
  have P:(T,vx)=oB u:=by
   have a6:i=0∨i=1:=aa;rcases a6 with rfl|rfl
   ·rw[←j];exact(Option.some.inj hi).symm
   ·rw[←j];exact(Option.some.inj hi).symm
  obtain⟨rfl,rfl⟩:T=.agg (dg u.2)∧vx=.agg (b7 u.1):=⟨congrArg Prod.fst P,congrArg Prod.snd P⟩;have a3:sC [.ptr a 0] (H.set a (.cl (.iter m 2 (oJ i l) (some i) 2)))=some (.aA [.agg (dg u.2),.agg (b7 u.1)]):=agE (m:=m) (since:=2) (last:=2) (left:=oJ i l) (es:=[oB s,oB t]) (e:=(.agg (dg u.2),.agg (b7 u.1))) (by rw[af.aK,ao rfl]) (by rw[af.aK,aj aa];exact p) rfl hi;have k1:∀e,aZ (.agg (dg e))=true:=fun _=>rfl
  have k2:∀e,cellsOf (.agg (dg e))=dg e:=fun _=>rfl
  have c:=zF v;have bB:cn (dg u.2)=6:=by rw[gV,c]
  have bb:cz (dg u.2) [ah 0,ah 0,ah 0,ah 0,ah 0,ah 0] 0=some (dg u.2):=vG c;have bc:∀q,aZ (.agg (b7 q))=true:=fun _=>rfl
  have bd:∀q,cellsOf (.agg (b7 q))=b7 q:=fun _=>rfl
  have fU:∀q,cn (b7 q)=4:=fun _=>rfl
  have mK:∀q,cz (b7 q) [aC,.ak,aC,.ak] 0=some (b7 q):=fun _=>rfl
  have nW:∀q,cK (b7 q)=true:=fun _=>rfl
  have S:∀q,cj (b7 q) 4=some (b7 q):=fun _=>rfl
  have qB:cj (dg u.2) 6=some (dg u.2):=iU c;have g:=lU v;have xx:nu (dg u.2) rZ=some (dg u.2++[aC,.ak,aC,.ak]):=by
   rw[Pq (by rw[c];decide),c];rfl
  have zc:cz (b7 u.1) (dg u.2++[aC,.ak,aC,.ak]) 6=some (bM u):=Pv c rfl;have t_:aZ (.agg (bM u))=true:=rfl;have aj':cellsOf (.agg (bM u))=bM u:=rfl;have BM:cn (bM u)=10:=by rw[gV,g]
  have BN:nu (bM u) rZ=some (bM u):=by
   rw[Pq (by rw[g];decide),g];show some (bM u++[])=_;rw[fN]
  unfold rZ at xx BN;have U:¬H.next+1=H.next:=aa
  have V:¬H.next=b:=aa
  have W:¬H.next+1=b:=aa
  have Y:¬H.next=a:=aa
  have Z:¬H.next+1=a:=aa
  have ab:¬H.next=m:=aa
  have ac:¬H.next+1=m:=aa
  have ad:¬a=b:=aa;have ae:¬a=m:=aa;have bs:¬H.next=H.next+1:=aa
  have Q:=F3 u.1;unfold c7 at Q;simp only[go_sem,Lv,Zu,o,cV,kS,Nat.reduceAdd,a3,k1,k2,bB,bb,bc,bd,fU,mK,nW,Tf,U,bs];simp only[go_sem,ZD,S];refine use Q ?_;have ca:=E.room;have b0:=I6 s t d;by_cases r:u.1.num=0
  ·have f:f_ s t (d++[i])=f_ s t d:=by rw[I7,j,ig,ao r,fN]
   simp only[go_sem,Ly,bm r,fX];refine⟨(oJ i l).length,aa,oJ i l,d++[i],some i,L,rfl,M,?_,?_,?_,?_,?_,K,?_,?_,?_⟩
   iterate 5 simp only[go_sem,o,B,f,ab,ac,ae,p,Y,Z,V,W,ad,C]
   ·rw[f];exact D
   ·intro y I;have x:¬H.next=y:=aa
    have z:¬H.next+1=y:=aa
    have A:¬a=y:=aa;simp only[go_sem,x,z,A];exact G y I
   ·simp only[go_sem];omega
  ·have f:f_ s t (d++[i])=f_ s t d++[u]:=by rw[I7,j,ig,aj r]
   simp only[go_sem,Ly,a_ r,je,U,bB,fU,S,qB,xx,zc,t_,aj',BM,BN,B];refine Fu (b:=b) (n:=2) (L:=L) (new:=bM u) ?_ aa (lU v) aa ⟨ag,ag⟩ (sr u) ?_ ?_
   ·simp only[go_sem,V,W,ad,C]
   ·simp only[go_sem];omega
   have cb:¬H.next+1+1=b:=aa
   have be:¬b=m:=aa;have bi:¬b=a:=aa;have bj:¬H.next+1+1=m:=aa
   have bo:¬H.next+1+1=a:=aa
   simp only[go_sem];refine⟨(oJ i l).length,aa,oJ i l,d++[i],some i,L.take ((f_ s t d).length*10)++bM u++L.drop ((f_ s t d).length*10+10),rfl,M,?_,?_,?_,?_,?_,?_,?_,?_,?_⟩
   iterate 5 simp only[go_sem,o,f,aV,cV,kS,ab,ac,ae,be,bj,p,Y,Z,bi,bo]
   ·simp only[aV,dP,g5,lU v];omega
   ·have O:=Fw (f_ s t d) (Tj hs ht d);rw[f,Bk,D,aV,gP,eu,iP,wE (by rw[aV,O,g];omega),b8 (by rw[aV,O,g];omega)];simp[gm]
   ·intro y I;have x:¬H.next=y:=aa
    have z:¬H.next+1=y:=aa
    have A:¬a=y:=aa;have a4:¬H.next+1+1=y:=aa
    have a5:¬b=y:=aa;simp only[go_sem,x,z,A,a4,a5];exact G y I
   ·simp only[go_sem];omega
 ·intro hl;have hd:l=[]∧(d=[0,1]∨d=[1,0]):=by
   rcases E with⟨rfl,rfl⟩|⟨rfl,rfl⟩|⟨rfl,rfl⟩|⟨rfl,h⟩
   ·exact absurd (hl 0 aE) aE
   ·exact absurd (hl 1 aE) aE
   ·exact absurd (hl 0 aE) aE
   ·exact⟨rfl,h⟩
  simp only[go_sem,Lv];exact hR _ _ d L hd.2 (by simp only[go_sem,B]) C K D G a7
theorem UD(s t:ax)(w:s.2.length≤6)(x:t.2.length≤6)(N m a b:Nat)(b5:N≤m)(u:m<b)(r:b<a)(R:X→Fr→af→Prop)(F:Fr)(H:af)(L:List V)(i:rd 40 F=.ptr a 0)(j:rd 8 F=.slice b 0 0 (.known 2))
 (o:H.get m=.cl (.map [oB s,oB t])) (n:H.get a=.cl (.iter m 2 [1,0] none 2)) (l:H.get b=.cells L 0) (p:L.length=20) (v:a<H.next)
 (q:∀e c d L,(d=[0,1]∨d=[1,0])→rd 8 e=.slice b 0 (f_ s t d).length (.known 2)→c.get b=.cells L 0→L.length=20→L.take ((f_ s t d).length*10)=gm (f_ s t d)→(∀y,y<N→c.get y=H.get y)→a<c.next→R (.exit 4) e c):
 bw (.loop (pc 225 12)) R F H:=by
 refine bK (Da s t N m a b H) 2 ⟨[1,0],[],none,L,rfl,.inl ⟨rfl,rfl⟩,i,j,o,n,l,p,rfl,fun _ _=>rfl,v⟩ ?_;intro k f g h;exact UE s t w x N m a b b5 u r H R k f g h q
def d6:V→V→Option Bool:=yG [.int .i64,.int .i64,.int .i64,.int .i64,.int .i64,.int .i64]
variable{i:Option Nat}{m:Fr}{e:Fr→af→Prop}
@[go_sem↓]theorem as6{P:Program}(x:Fr→V):dV P a (dD x) i m c e=q_ i e m c (ud [x m] c):=rfl
theorem xG{es:List (V×V)}(h:c.get a=.cl (.map es)):c.jk a=some es:=by unfold af.jk;rw[h]
variable{z:V→V→Option Bool}{r:V}
theorem amA{b:V}(h:c.get a=.cl (.map []))(e:z r r=some true):ue z b false [.map a,r] c=some b:=by
 show an (z r r) (fun _=>an (c.jk a) fun d=>an (pB z r d 0) fun f=>Option.casesOn (motive:=fun _=>Option V) f (some (ug false b false)) (fun q=>some (ug false q.2 true)))=_;rw[e,xG h];rfl
theorem amB{k1 v1 b:V}(h:c.get a=.cl (.map [(k1,v1)]))(e:z r r=some true)(f:z r k1=some false):ue z b false [.map a,r] c=some b:=by
 show an (z r r) (fun _=>an (c.jk a) fun d=>an (pB z r d 0) fun g=>Option.casesOn (motive:=fun _=>Option V) g (some (ug false b false)) (fun q=>some (ug false q.2 true)))=_;rw[e,xG h];show an (an (z r k1) _) _=_;rw[f];rfl
theorem arD{v:V}(h:c.get a=.cl (.map []))(d:z r r=some true):yl z [.map a,r,v] c=some (V.undef,c.set a (.cl (.map [(r,v)]))):=by
 show an (z r r) (fun _=>an (c.jk a) fun b=>an (pB z r b 0) fun e=>Option.casesOn (motive:=fun _=>Option (V×af)) e (some (V.undef,c.set a (.cl (.map (cX b [(r,v)]))))) (fun q=>some (V.undef,c.set a (.cl (.map (zj b (r,v) q.1))))))=_;rw[d,xG h];rfl
theorem arE{v k1 v1:V}(h:c.get a=.cl (.map [(k1,v1)]))(d:z r r=some true)(e:z r k1=some false):yl z [.map a,r,v] c=some (V.undef,c.set a (.cl (.map [(k1,v1),(r,v)]))):=by
 show an (z r r) (fun _=>an (c.jk a) fun b=>an (pB z r b 0) fun f=>Option.casesOn (motive:=fun _=>Option (V×af)) f (some (V.undef,c.set a (.cl (.map (cX b [(r,v)]))))) (fun q=>some (V.undef,c.set a (.cl (.map (zj b (r,v) q.1))))))=_;rw[d,xG h];show an (an (z r k1) _) _=_;rw[e];rfl
theorem IS(q:Rat)(c:bg 1000 q)(H:af)(b:GT H):c5 112 [.agg [aC,.ak,aC,.ak],.agg (b7 q)] H fun v a=>v=.agg (b7 q)∧a=H:=by
 have h:=aoL 0 q (a:=1) (b:=1000) ⟨ag,ag⟩ c ag H b;rw[Rat.zero_add,←Qp]at h;exact T5 (.cons (.agg (.cons (.same _) (.cons .fL (.cons (.same _) (.cons .fL .nil))))) (.cons (.same _) .nil)) h
theorem UC(s t:ax)(v:s.2.length≤6)(w:t.2.length≤6)(i:d6 (.agg (dg s.2)) (.agg (dg s.2))=some true)(k:d6 (.agg (dg t.2)) (.agg (dg t.2))=some true)(j:d6 (.agg (dg t.2)) (.agg (dg s.2))=some false)
 (ad:bg 1000 s.1) (ae:bg 1000 t.1) (m be:Nat) (f:Cap) (F:Fr) (H:af) (R:X→Fr→af→Prop) (r:GT H) (c:H.get m=.cl (.map [])) (h:H.get be=.cells (bM s++bM t) 0) (hm:m<H.next) (L:5≤m) (ar:be<H.next)
 (q:rd 3 F=.map m) (o:rd 18 F=.slice be 0 2 f) (g:rd 19 F=ah 2) (p:rd 20 F=ah 0)
 (G:∀n b,(∀t,t<18→t≠7→rd t n=rd t F)→b.get m=.cl (.map [oB s,oB t])→(∀y,y<H.next→y≠m→b.get y=H.get y)→b.next=H.next+2→R (.exit 2) n b):
 bw (.loop (pc 225 3)) R F H:=by
 unfold d6 at i k j;have d:=lU v;have l:=lU w;have C:=zF v;have D:=zF w;have N:eo none 10 [.slice be 0 2 f,ah 0]=some (.val (.ptr be 0)):=bW ag;have O:eo none 10 [.slice be 0 2 f,ah 1]=some (.val (.ptr be 10)):=bW ag;have z:=B2 (ys:=bM t) d;rw[dA]at z;have V:=zm d l;have P:aZ (.agg (bM s))=true:=rfl;have Q:cellsOf (.agg (bM s))=bM s:=rfl;have bB:aZ (.agg (bM t))=true:=rfl;have S:cellsOf (.agg (bM t))=bM t:=rfl;have T:cn (bM s)=10:=by rw[gV,d]
 have U:cn (bM t)=10:=by rw[gV,l]
 have fU:cz (bM s) rZ 0=some (bM s):=vG d;have mK:cz (bM t) rZ 0=some (bM t):=vG l;unfold rZ at fU mK;have nW:cj (bM s) 6=some (dg s.2):=by have:=B2 (ys:=b7 s.1) C;rwa[dA]at this
 have x:cj (bM t) 6=some (dg t.2):=by have:=B2 (ys:=b7 t.1) D;rwa[dA]at this
 have qB:cj (ej (bM s) 6) 4=some (b7 s.1):=zm C rfl;have xx:cj (ej (bM t) 6) 4=some (b7 t.1):=zm D rfl;have al:aB .i64 ((0:Int)+1)=1:=rfl;have am:aB .i64 ((1:Int)+1)=2:=rfl;have E:decide ((0:Int)<2)=true:=rfl;have d12:decide ((1:Int)<2)=true:=rfl;have d22:decide ((2:Int)<2)=false:=rfl;have A:¬H.next=m:=aa
 have W:¬H.next=be:=aa
 have a2:¬H.next+1=be:=aa
 have B:¬H.next+1=m:=aa
 have a3:¬H.next=H.next+1:=aa
 have Y:¬m=be:=fun e=>by rw[e,h]at c;cases c
 have a4:¬m=H.next:=aa
 have a5:¬m=H.next+1:=aa
 refine qV 3 ?_;rw[kE];obtain⟨K,a⟩:∃K,K=qd eO 5 (pc 225 3) R 2:=⟨_,rfl⟩;rw[←a];simp only[go_sem,Eu,Et,Lu,E,N,h,z,P,Q,T,fU,nW,q,o,g,p,sr];rw[amA (by simp only[go_sem,A,c]) i];simp only[go_sem,qB];refine(IS s.1 ad _ ((r.push aa _).set aa _)).mono ?_;rintro _ _ ⟨rfl,rfl⟩;simp only[go_sem,nW];rw[arD (by simp only[go_sem,A,c]) i];simp only[go_sem,Lt,p,al,true_and];rw[a,kE];clear a K;obtain⟨K,a⟩:∃K,K=qd eO 5 (pc 225 3) R 1:=⟨_,rfl⟩;rw[←a];have I:GT ((H.push (.cells [ah 0,ah 0,ah 0,ah 0,ah 0,ah 0,aC,.ak,aC,.ak] 0)).set H.next (.cells (bM s) 0)):=(r.push aa _).set aa _
 have J:=I.set L (.cl (.map [(.agg (dg s.2),.agg (b7 s.1))]));simp only[go_sem,Eu,Et,Lu,d12,O,W,Y,h,V,bB,S,U,mK,x,q,o,g,sr];rw[amB (k1:=.agg (dg s.2)) (v1:=.agg (b7 s.1)) (by simp only[go_sem,B]) k j];simp only[go_sem,xx];refine(IS t.1 ae _ ((J.push (by simp only[go_sem];omega) _).set aa _)).mono ?_;rintro _ _ ⟨rfl,rfl⟩;simp only[go_sem,x,true_and];rw[arE (k1:=.agg (dg s.2)) (v1:=.agg (b7 s.1)) (by simp only[go_sem,B]) k j];simp only[go_sem,Lt,am];rw[a,kE];clear a K;simp only[go_sem,Eu,Et,d22,g];refine G _ _ (fun u hu h7=>?_) ?_ (fun y hy M=>?_) ?_
 ·simp(disch:=omega)only[bU]
 ·simp only[go_sem];rfl
 ·have Z:¬H.next=y:=aa
  have ab:¬H.next+1=y:=aa
  have ac:¬m=y:=fun e=>M e.symm
  simp only[go_sem,Z,ab,ac]
 ·simp only[go_sem]
theorem UF(s t:ax)(u:s.2.length≤6)(w:t.2.length≤6)(W:d6 (.agg (dg s.2)) (.agg (dg s.2))=some true)(Z:d6 (.agg (dg t.2)) (.agg (dg t.2))=some true)(Y:d6 (.agg (dg t.2)) (.agg (dg s.2))=some false)
 (ar:bg 1000 s.1) (aw:bg 1000 t.1) (H:af) (gR be:Nat) (c j:Cap) (Q:GT H) (O:H.get gR=.cells [.slice be 0 2 j] 0) (N:H.get be=.cells (bM s++bM t) 0) (a4:gR<H.next) (a5:be<H.next) (q:5≤H.next):
 c5 225 [.slice gR 0 1 c] H fun v a=>∃d b L,(d=[0,1]∨d=[1,0])∧v=.slice b 0 (f_ s t d).length (.known 2)∧a.get b=.cells L 0∧L.length=20∧L.take ((f_ s t d).length*10)=gm (f_ s t d)∧H.next≤b∧b<a.next∧(∀y,y<H.next→a.get y=H.get y):=by
 have ab:eo none 1 [.slice gR 0 1 c,ah 0]=some (.val (.ptr gR 0)):=bW ag;have A:c3 (.slice gR 0 1 c)=some (.val (ah 1)):=rfl;have B:c3 (.slice be 0 2 j)=some (.val (ah 2)):=rfl;have a0:aB .i64 ((0:Int)+1)=1:=rfl;have z:decide ((0:Int)<1)=true:=rfl;have d11:decide ((1:Int)<1)=false:=rfl;have n1:¬H.next=gR:=aa
 have n2:¬H.next=be:=aa
 refine aT akH ?_;simp only[go_sem,d225,ZA,Zz,A];refine qV 2 ?_;rw[kE];obtain⟨R,o⟩:∃R:X→Fr→af→Prop,R=iY 0 (fD (bw (pc 225 15) (fu [gH.tmp 2] fun v a=>∃d b L,(d=[0,1]∨d=[1,0])∧v=.slice b 0 (f_ s t d).length (.known 2)∧a.get b=.cells L 0∧L.length=20∧L.take ((f_ s t d).length*10)=gm (f_ s t d)∧H.next≤b∧b<a.next∧(∀y,y<H.next→a.get y=H.get y))) (fu [gH.tmp 2] fun v a=>∃d b L,(d=[0,1]∨d=[1,0])∧v=.slice b 0 (f_ s t d).length (.known 2)∧a.get b=.cells L 0∧L.length=20∧L.take ((f_ s t d).length*10)=gm (f_ s t d)∧H.next≤b∧b<a.next∧(∀y,y<H.next→a.get y=H.get y))):=⟨_,rfl⟩
 rw[←o];obtain⟨K,l⟩:∃K,K=qd eO 5 (pc 225 7) R 1:=⟨_,rfl⟩;rw[←l];simp only[go_sem,Lx,Lw,ZC,z,ab,n1,O,B];refine UC s t u w W Z Y ar aw H.next be j _ _ _ (Q.push q _) ?_ ?_ ?_ q ?_ ?_ ?_ ?_ ?_ ?_
 iterate 2 simp only[go_sem,n2,N]
 ·simp only[go_sem];omega
 ·simp only[go_sem];omega
 iterate 4 simp only[go_sem]
 intro h a g k i r;have E:rd 3 h=.map H.next:=by rw[g 3 ag ag];simp only[go_sem]
 have a3:rd 12 h=.slice gR 0 1 c:=by rw[g 12 ag ag];simp only[go_sem]
 have C:rd 13 h=ah 1:=by rw[g 13 ag ag];simp only[go_sem]
 have D:rd 14 h=ah 0:=by rw[g 14 ag ag];simp only[go_sem]
 have T:∀y,y<H.next→a.get y=H.get y:=fun y m=>by
  rw[i y (by simp only[go_sem];omega) aa,af.aY,aj aa]
 have a6:a.next=H.next+3:=by rw[r];simp only[go_sem]
 clear g i r;simp only[go_sem,ZB,D,a0];rw[l,kE];clear l K;simp only[go_sem,Lx,Lw,C,d11,o];have S:ud [.map H.next] a=some (ah 2):=by
  show an (a.jk H.next) (fun f=>some (V.int .i64 (.ofNat (cn f))))=_
  rw[xG k];rfl
 have p:l7 112 [ah 0,ah 0,ah 0,ah 0,ah 0,ah 0,aC,.ak,aC,.ak] [ah 0,ah 2]=some (.new (rep [ah 0,ah 0,ah 0,ah 0,ah 0,ah 0,aC,.ak,aC,.ak] 2) (.slice 0 2)):=PE (n:=2) ag;obtain⟨e,n⟩:∃e:List V,e=rep [ah 0,ah 0,ah 0,ah 0,ah 0,ah 0,aC,.ak,aC,.ak] 2:=⟨_,rfl⟩;have J:e.length=20:=by rw[n,Cn];rfl
 rw[←n]at p;have x:¬a.next=H.next:=aa
 have U:zP [.map H.next] (a.push (.cells e 0))=some (.ptr (a.next+1) 0,(a.push (.cells e 0)).push (.cl (.iter H.next 2 [1,0] aJ 2))):=by
  show an ((a.push (.cells e 0)).jk H.next) (fun f=>some (V.ptr (a.push (.cells e 0)).next 0,(a.push (.cells e 0)).push (.cl (.iter H.next (cn f) (upto (cn f)) aJ (cn f)))))=_
  rw[xG (es:=[oB s,oB t]) (by rw[af.aY,aj x,k])];rfl
 simp only[go_sem,Zy,Zx,E,S,p,U];refine UD s t u w H.next H.next (a.next+1) a.next (aF _) aa aa _ _ _ e ?_ ?_ ?_ ?_ ?_ J ?_ ?_
 iterate 2 simp only[go_sem]
 ·have m2:¬a.next+1=H.next:=aa
  simp only[go_sem,x,m2,k]
 ·simp only[go_sem]
 ·have ad:¬a.next+1=a.next:=aa
  simp only[go_sem,ad]
 ·simp only[go_sem];omega
 intro a1 H2 d L P F G I M i a7;simp only[go_sem,Zw,F];refine⟨d,a.next,L,P,rfl,G,I,M,aa,aa,fun y m=>?_⟩
 have ae:¬a.next=y:=aa
 have al:¬a.next+1=y:=aa
 rw[i y m];simp only[go_sem,ae,al];exact T y m
def Au(b:Nat)(d:List ax)(H a:af):Prop:=∃c,a.get b=.cells c 0∧c.length=20∧c.take (d.length*10)=gm d∧(∀y,y≠b→a.get y=H.get y)∧a.next=H.next
theorem aqD(s:ax)(H:af)(b:Nat)(c:Cap)(L:List V)(f:H.get b=.cells L 0)(d:L.length=20)(e:L.take 10=gm [s]):
 c5 274 [.slice b 0 1 c,.func 275 [] []] H fun _ a=>Au b [s] H a:=
 RH _ 1 (.inl rfl) rfl H _ ((aqC _ rfl H).mono fun _ a h=>by rw[h];exact⟨L,f,d,e,fun _ _=>rfl,rfl⟩)
theorem vl(s t:ax):gm [s,t]=bM s++bM t:=by simp[gm]
theorem aqE(s t:ax)(i:s.2.length≤6)(j:t.2.length≤6)(m:s.2.sum≤24)(st:t.2.sum≤24)(n:ord (fC s.2) (fC t.2)=1)(o:ord (fC t.2) (fC s.2)= -1)(l:List ax)(hl:l=[s,t]∨l=[t,s])(H:af)(b:Nat)(c:Cap)(L:List V)(a:H.get b=.cells L 0)(p:L.length=20)(g:L.take 20=gm l):
 c5 274 [.slice b 0 2 c,.func 275 [] []] H fun _ f=>Au b [s,t] H f:=by
 rw[b8 aa]at g;have d:(gm [s,t]).length=20:=by rw[vl,aV,lU i,lU j]
 refine RH _ 2 (.inr rfl) rfl H _ ?_;rcases hl with rfl|rfl
 ·rw[g,vl]at a;refine(RG s t i j m st H b c a).mono fun _ f h=>?_
  rw[n,aj ag]at h;rw[h];exact⟨_,a,by rw[←vl];exact d,by rw[←vl];exact b8 (by rw[d];exact aF 20),fun _ _=>rfl,rfl⟩
 ·rw[g,vl]at a;refine(RG t s j i st m H b c a).mono fun _ f h=>?_
  rw[o,ao ag]at h;rw[h];refine⟨_,by rw[af.aK,ao rfl],by rw[←vl];exact d,by rw[←vl];exact b8 (by rw[d];exact aF 20),fun y k=>?_,rfl⟩;rw[af.aK,aj (fun e=>k e.symm),af.aK,aj (fun e=>k e.symm)]
inductive lQ (H:af) (N n:Nat):List ax→List V→Prop
 |nil:lQ H N n [] []
 |snoc {l:List ax}{cs:List V}{t:ax}{e:Nat} (h:lQ H N n l cs) (he:N≤e∧e<H.next) (hl:t.2.length=n) (hg:H.get e=.cells (ct t.2) 0):lQ H N n (l++[t]) (cs++[.str (bf t.1),.slice e 0 n (.known n)])
theorem lQ.keep{H':af}(e:lQ c a h l b)(j:c.next≤H'.next)(g:∀y b,a≤y→y<c.next→c.get y=.cells b 0→H'.get y=.cells b 0):lQ H' a h l b:=by
 induction e with
 |nil=>exact .nil
 |snoc e d hl f i=>exact .snoc i ⟨d.1,aa⟩ hl (g _ _ d.1 d.2 f)
theorem lQ.len(d:lQ c a h l b):b.length=l.length*2:=by
 induction d with
 |nil=>rfl
 |snoc d f hl g e=>simp only[aV,e,cV,kS];omega
variable{I:af}
theorem lQ.ahN(i:0<h)(e:∀y,a≤y→I.get y=.none)(d:lQ c a h l b):cD c I b (jd l):=by
 induction d with
 |nil=>exact .nil
 |snoc d f hl g j=>
  rw[C6];refine y8 j (.cons (.same _) (.cons ?_ .nil));unfold bI;rw[hl];refine .row (m:=h) (cs:=ct _) ?_ i (e _ f.1) (cD.refl _);rw[fI g,dA,iU (by rw[j5,hl])]
theorem NC:∀(l:List ax) (i:Nat),(∀t∈l,t.2.length≤6)→(gm l).drop (i*10)=gm (l.drop i)
 |[],i,_=>by simp[gm]
 |t::l,0,_=>aE
 |t::l,i+1,h=>by
  rw[List.drop_succ_cons,←NC l i fun u a=>h u (by simp[a]),gm,oR,js,List.drop_append,lU (h t aE),jF (by rw[lU (h t aE)];omega),eE,Nat.add_sub_cancel_left]
theorem ND{i:Nat}{u:ax}(h:b.take (l.length*10)=gm l)(e:l[i]? =some u)(hl:∀t∈l,t.2.length≤6):cj (ej b (i*10)) 10=some (bM u):=by
 obtain⟨hi,rfl⟩:=gZ.1 e;have a:=NC l i hl;rw[←h,lz hi,gm,List.drop_take]at a;have d:=lU (hl l[i] (wB hi));have c:bM l[i]=(b.drop (i*10)).take 10:=by
  have:=congrArg (List.take 10) a;rw[List.take_take,m4 aa,r9 d]at this;exact this.symm
 rw[kj,eZ,←c,ao];have:=congrArg kD c;rw[dP,d]at this;omega
theorem agA{n:Nat}{cs jy:List V}{es:List Nat}(j:c.get a=.cells cs 0)(q:cs.length=n)(p:c.get h=.cells (dg es++jy) 0)(hl:es.length=n)(r:n≤6)(l:e (put m i (ah (n:Int))) (c.set a (.cells (ct es) 0))):
 gk i e m (ow 1 [.slice a 0 n (.known n),.slice h 0 6 (.known 6)] c):=by
 have o:ep 6 n=n:=by rw[B_];omega
 have g:ow 1 [.slice a 0 n (.known n),.slice h 0 6 (.known 6)] c=some (ah (n:Int),c.set a (.cells (ct es) 0)):=by
  show an (some 6) (fun d=>an (dX c 1 (ep d n) (.slice h 0 6 (.known 6))) fun b=>an (c.e3 a 0 b) fun c=>some (V.int .i64 (.ofNat (ep d n)),c))=_;show an (dX c 1 (ep 6 n) (.slice h 0 6 (.known 6))) (fun b=>an (c.e3 a 0 b) fun c=>some (V.int .i64 (.ofNat (ep 6 n)),c))=_;rw[o];have k:dX c 1 n (.slice h 0 6 (.known 6))=some (ct es):=by
   show c.cP h 0 (n*1)=_;rw[fI p,dA,eZ,ef,dg,fl,ao (by rw[aV,j5];omega),r9 (by rw[j5,hl])]
  rw[k];show an (c.e3 a 0 (ct es)) _=_;unfold af.e3;rw[j];show an (aQ (cK (ct es)) (an (cz (ct es) cs 0) fun f=>some (c.set a (.cells f 0)))) _=_;rw[yI,vG (by rw[j5];omega)];rfl
 rw[g];exact l
def SW(n:Nat)(a:List ax)(M b T P:Nat)(c:Cap)(L:List V)(e:Fr)(f:af)(k:Nat)(F:Fr)(H:af):Prop:=∃(i:Nat) (C d:List V),k=a.length-i∧i≤a.length∧(∀t,t<7→rd t F=rd t e)∧rd 33 F=.slice b 0 a.length c∧rd 34 F=ah (a.length:Int)∧rd 35 F=ah (i:Int)∧
 H.get T=.cells C 0∧C.length=a.length*2∧C.take (i*2)=d∧lQ H M n (a.take i) d∧(∀y,y<M→y≠T→H.get y=f.get y)∧M≤H.next
theorem asq(n:Nat)(hn:0<n∧n≤6)(d:List ax)(hl:∀t∈d,t.2.length=n)(hq:∀t∈d,bg 1000 t.1)(ls:d.length≤1000)(b T P:Nat)(c:Cap)(L:List V)(o:List V)(F:Fr)(H:af)(R:X→Fr→af→Prop)
 (f0:rd 0 F=ah (n:Int)) (f6:rd 6 F=.ptr P 0) (ad:rd 33 F=.slice b 0 d.length c) (ae:rd 34 F=ah (d.length:Int)) (al:rd 35 F=ah 0)
 (aw:H.get b=.cells L 0) (a1:L.take (d.length*10)=gm d) (ar:H.get T=.cells o 0) (a0:o.length=d.length*2) (ap:H.get P=.cells [ah (n:Int),.slice T 0 d.length (.known d.length)] 0) (hg:GT H) (hb:b<H.next) (hT:T<H.next) (hP:P<H.next) (co:5≤T) (a7:b≠T) (a3:P≠T)
 (hR:∀D g f,(∀t,t<7→rd t D=rd t F)→lQ g H.next n d f→g.get T=.cells f 0→(∀y,y<H.next→y≠T→g.get y=H.get y)→H.next≤g.next→R (.exit 0) D g):
 bw (.loop (pc 202 3)) R F H:=by
 refine bK (SW n d H.next b T P c L F H) d.length ⟨0,o,[],rfl,b4 _,fun _ _=>rfl,ad,ae,al,ar,a0,aE,.nil,fun _ _ _=>rfl,aF _⟩ ?_
 rintro k E a ⟨i,C,f,rfl,hi,m,G,p,q,Q,ci,r,v,j,bj⟩;have Y:rd 0 E=ah (n:Int):=by rw[m 0 ag];exact f0
 have Z:rd 6 E=.ptr P 0:=by rw[m 6 ag];exact f6
 have kb:a.get b=.cells L 0:=by rw[j b hb a7,aw]
 have O:=(j P hP a3).trans ap;have a9:GT a:=hg.keep fun y x=>j y aa aa
 rw[Za];by_cases bb:i<d.length
 ·obtain⟨u,w⟩:∃u,d[i]? =some u:=⟨d[i],cx bb⟩;have M:=eN w;have K:=hl u M;have I:=lU (t:=u) aa;have bo:=zF (e:=u.2) aa;have ea:=ND a1 w (fun t l=>by have:=hl t l;omega);have s:decide ((i:Int)<((d.length:Nat):Int))=true:=bm aa;have w1:aB .i64 ((i:Int)+1)=((i+1:Nat):Int):=by rw[aI _ aa];rfl
  have b1:eo none 10 [.slice b 0 d.length c,ah (i:Int)]=some (.val (.ptr b (i*10))):=by
   rw[bW aa];simp
  have b2:eo none 2 [.slice T 0 d.length (.known d.length),ah (i:Int)]=some (.val (.ptr T (i*2))):=by
   rw[bW aa];simp
  have k1:aZ (.agg (bM u))=true:=rfl;have k2:cellsOf (.agg (bM u))=bM u:=rfl;have cb:cn (bM u)=10:=by rw[gV,I]
  have fU:cz (bM u) rZ 0=some (bM u):=vG I;unfold rZ at fU;have qB:cj (ej (bM u) 6) 4=some (b7 u.1):=zm bo rfl;have be:l7 8 [ah 0] [ah (n:Int),ah (n:Int)]=some (.new (rep [ah 0] n) (.slice n n)):=by rw[iI aa];simp
  have bv:slice3 (nD 6 1) false false false [.ptr a.next 0]=some (.val (.slice a.next 0 6 (.known 6))):=rfl
  have J:=aoQ u.1 (hq u M) ag;unfold c7 at J;have n1:¬a.next=b:=aa
  have n2:¬a.next=T:=aa
  have S:¬a.next=P:=aa
  have U:¬a.next+1=a.next:=aa
  have ce:¬a.next+1=T:=aa
  have W:¬a.next+1=P:=aa
  have c1:¬a.next=a.next+1:=aa
  simp only[go_sem,Lp,Y_,Y,G,p,q,s,b1,kb,ea,k1,k2,cb,fU,be,bv,sr];refine agA (n:=n) (cs:=rep [ah 0] n) (jy:=b7 u.1) (es:=u.2) ?_ ?_ ?_ K hn.2 ?_
  ·simp only[go_sem]
  ·rw[Cn];simp
  ·simp only[go_sem,U];rfl
  simp only[go_sem,Z,S,U,W,O,qB];have a':GT ((((a.push (.cells [ah 0,ah 0,ah 0,ah 0,ah 0,ah 0,aC,.ak,aC,.ak] 0)).set a.next (.cells (bM u) 0)).push (.cells (rep [ah 0] n) 0)).set (a.next+1) (.cells (ct u.2) 0)):=by
   repeat' first|exact a9|omega|(simp only[go_sem];omega)|refine GT.set ?_ ?_ _|refine GT.push ?_ ?_ _
  refine ck J a' ?_;have b0:cz [.str (bf u.1),.slice (a.next+1) 0 n (.known n)] C (i*2)=some (C.take (i*2)++[.str (bf u.1),.slice (a.next+1) 0 n (.known n)]++C.drop (i*2+2)):=by
   rw[k8,ao (by rw[cV,gP];omega)];rfl
  have a5:cK [V.str (bf u.1),.slice (a.next+1) 0 n (.known n)]=true:=rfl
  simp only[go_sem,n2,S,ce,W,O,Q,b2,b0,a5,true_and];simp only[go_sem,Y9,q,w1];have t1:¬T=a.next+1:=aa
  have bc:∀y f,H.next≤y→y<a.next→a.get y=.cells f 0→(((((a.push (.cells [ah 0,ah 0,ah 0,ah 0,ah 0,ah 0,aC,.ak,aC,.ak] 0)).set a.next (.cells (bM u) 0)).push (.cells (rep [ah 0] n) 0)).set (a.next+1) (.cells (ct u.2) 0)).set T (.cells (C.take (i*2)++[.str (bf u.1),.slice (a.next+1) 0 n (.known n)]++C.drop (i*2+2)) 0)).get y=.cells f 0:=fun y f x cp h=>by
   have z:¬a.next=y:=aa
   have A:¬a.next+1=y:=aa
   have B:¬T=y:=aa;simp only[go_sem,z,A,B,h]
  refine⟨d.length-(i+1),aa,i+1,C.take (i*2)++[.str (bf u.1),.slice (a.next+1) 0 n (.known n)]++C.drop (i*2+2),f++[.str (bf u.1),.slice (a.next+1) 0 n (.known n)],rfl,aa,fun t l=>?_,?_,?_,?_,?_,?_,?_,?_,fun y x N=>?_,?_⟩
  ·simp(disch:=omega)only[bU];exact m t l
  iterate 4 simp only[go_sem,G,p]
  ·simp only[aV,dP,g5,cV,kS];omega
  ·have bd:(C.take (i*2)++[V.str (bf u.1),.slice (a.next+1) 0 n (.known n)]).length=(i+1)*2:=by
    simp only[aV,dP,cV,kS];omega
   rw[←bd,q4,r]
  ·rw[CP w];refine .snoc (v.keep (by simp only[go_sem];omega) bc) ⟨aa,by simp only[go_sem];omega⟩ K ?_;simp only[go_sem,t1]
  ·have z:¬a.next=y:=aa
   have A:¬a.next+1=y:=aa
   have B:¬T=y:=fun e=>N e.symm
   simp only[go_sem,z,A,B];exact j y x N
  ·simp only[go_sem];omega
 ·have ba:i=d.length:=aa;subst ba;have s:decide (((d.length:Nat):Int)<((d.length:Nat):Int))=false:=a_ aa;rw[b8 aa]at r;rw[b8 (aF _)]at v;subst r;simp only[go_sem,Lp,p,q,s];exact hR _ _ C (fun t l=>by simp(disch:=omega)only[bU];exact m t l) v Q j bj
theorem ass(n:Nat)(X:0<n∧n≤6)(d:List ax)(hl:∀t∈d,t.2.length=n)(hs:∀t∈d,t.2.sum≤24)(hq:∀t∈d,bg 1000 t.1)(C:0<d.length∧d.length≤1000)(H:af)(b:Nat)(c:Cap)(L:List V)(S:GT H)(P:H.get b=.cells L 0)(a':b<H.next)(a9:5≤b)
 (ae:∀i,i.get b=.cells L 0→c5 274 [.slice b 0 d.length c,.func 275 [] []] i fun _ a=>Au b d i a):
 c5 202 [ah (n:Int),.slice b 0 d.length c] H fun v a=>∃T M f,v=.aA [.agg [ah (n:Int),.slice T 0 d.length (.known d.length)],ah 0]∧lQ a M n d f∧a.get T=.cells f 0∧H.next≤T∧H.next≤M∧(∀y,y<H.next→y≠b→a.get y=H.get y)∧H.next≤a.next∧T<a.next:=by
 obtain⟨u,z⟩:∃u,d[0]? =some u:=⟨d[0],cx C.1⟩;have A:=eN z;have ba:=hl u A;have ap:=hs u A;have g:c3 (.slice b 0 d.length c)=some (.val (ah (d.length:Int))):=rfl;have G:decide ((d.length:Int)>4096)=false:=a_ aa;have I:decide ((d.length:Int)>0)=true:=bm aa;have ar:eo none 10 [.slice b 0 d.length c,ah 0]=some (.val (.ptr b 0)):=bW aa;have ad:slice3 (nD 6 1) false false false [.ptr b 0]=some (.val (.slice b 0 6 (.known 6))):=rfl;have Q:¬H.next=b:=aa
 refine aT akD ?_;simp only[go_sem,d202,Zg,Zf,g,G];refine(ae _ (by simp only[go_sem,Q,P])).mono ?_;rintro v0 a ⟨F,B,k2,bB,m,aw⟩;have U:GT a:=(S.push aa (.cells [ah 0,.ak] 0)).keep fun y e=>m y aa
 have a1:a.get H.next=.cells [ah 0,.ak] 0:=by rw[m _ aa];simp only[go_sem]
 have a0:∀y,y<H.next→y≠b→a.get y=H.get y:=fun y e l=>by rw[m y l,af.aY,aj aa]
 have bd:a.next=H.next+1:=by rw[aw];simp only[go_sem]
 simp only[go_sem,Ze,Zd,g,I,ar,ad];have R:bO a (af.zero a.next) (.slice b 0 6 (.known 6)) (bI (fC u.2)):=by
  have j:=ND (i:=0) bB z (fun t ht=>by have:=hl t ht;omega);have Z:(ct (fC u.2)).length=6:=by rw[j5,uo aa]
  unfold bI;rw[uo aa];refine .row (m:=6) (cs:=ct (fC u.2)) ?_ ag (af.e7 _ _) (cD.refl _);rw[fI B,dA];rw[jg,dA,eZ]at j;rw[eZ,ao aa];rw[ao aa]at j;have q:=congrArg (fun x=>x.map (List.take 6)) j;simp only[Option.map_some,List.take_take,Nat.reduceLeDiff,m4]at q;rw[q,bM,GP,r9 Z]
 refine(vb (R:=fun v=>v=bE) (.cons R .nil) ((Gr (fC u.2) (by rw[uo aa];omega) (by rw[GO];exact ap) _).mono ?_)).mono ?_
 ·rintro _ _ ⟨rfl,rfl⟩;exact⟨_,fun b=>.bool _,rfl⟩
 rintro _ E ⟨rfl,r⟩;rw[r];clear r E;have W:l7 40 [.str [],.ak] [ah (d.length:Int),ah (d.length:Int)]=some (.new (rep [.str [],.ak] d.length) (.slice d.length d.length)):=by rw[iI aa];simp
 simp only[go_sem,g,fX,W];have w:5≤a.next:=aa
 simp only[go_sem,Zc,g];have n1:¬a.next=b:=aa
 have n2:¬a.next+1=b:=aa
 have a4:¬a.next+1=a.next:=aa
 have a5:¬a.next=H.next:=aa
 have D:¬a.next+1=H.next:=aa
 refine asq n X d hl hq C.2 b a.next (a.next+1) c F (rep [.str [],.ak] d.length) _ _ _ ?_ ?_ ?_ ?_ ?_ ?_ bB ?_ ?_ ?_ ?_ ?_ ?_ ?_ w aa aa ?_
 iterate 7 simp only[go_sem,n1,n2,B,a4]
 ·rw[Cn];rfl
 ·simp only[go_sem]
 ·exact((U.push w _).push (by simp only[go_sem];omega) _).set aa _
 ·simp only[go_sem];omega
 ·simp only[go_sem];omega
 ·simp only[go_sem];omega
 intro o p f s am hT k Y;simp only[go_sem]at Y;have J:rd 4 o=.ptr H.next 0:=by rw[s 4 ag];simp only[go_sem]
 have K:rd 6 o=.ptr (a.next+1) 0:=by rw[s 6 ag];simp only[go_sem]
 have N:p.get (a.next+1)=.cells [ah (n:Int),.slice a.next 0 d.length (.known d.length)] 0:=by
  rw[k _ (by simp only[go_sem];omega) aa];simp only[go_sem]
 have O:p.get H.next=.cells [ah 0,.ak] 0:=by
  rw[k _ (by simp only[go_sem];omega) aa];simp only[go_sem,a5,D,a1]
 have m1:¬a.next+1=H.next:=D
 simp only[go_sem,Zb,J,K,N,O];refine⟨a.next,_,f,rfl,am.keep (aF _) fun y a8 e bb h=>?_,?_,aa,?_,fun y e l=>?_,?_⟩
 ·rw[af.aK,aj (by simp only[go_sem]at e;omega)];exact h
 ·rw[aj aa];exact hT
 ·simp only[go_sem];omega
 ·have q1:¬a.next=y:=aa
  have a7:¬a.next+1=y:=aa
  rw[aj aa,k y (by simp only[go_sem];omega) aa];simp only[go_sem,q1,a7];exact a0 y e l
 ·constructor<;>omega
def oa:List V:=[ah 0,ah 0,ah 0,ah 0,ah 0,ah 0]
theorem aoc(h:d.length≤6):ct d++oa.drop d.length=dg d:=by
 unfold dg;rw[show oa=aW 6 (V.int .i64 0)from rfl,List.drop_replicate]
variable{u:Nat}{L:Nat}
theorem agB{X Y:List V}{es:List Nat}(j:c.get a=.cells (X++(oa++Y)) 0)(b:X.length=h)(k:c.get u=.cells (ct es) 0)(hl:es.length=L)(p:L≤6)
 (n:e (put m i (ah (L:Int))) (c.set a (.cells (X++(dg es++Y)) 0))):gk i e m (ow 1 [.slice a h 6 (.known 6),.slice u 0 L (.known L)] c):=by
 have o:ep L 6=L:=ld p;have q:cz (ct es) (X++(oa++Y)) h=some (X++(dg es++Y)):=by
  have d:oa.length=6:=rfl;rw[k8,ao (by simp only[aV,j5,d];omega),r9 b,←aoc aa];congr 1;rw[fl,fl];congr 2;rw[←b,←List.drop_drop,List.drop_left,List.drop_append_of_le_length (by rw[d,j5];omega),j5]
 have g:ow 1 [.slice a h 6 (.known 6),.slice u 0 L (.known L)] c=some (ah (L:Int),c.set a (.cells (X++(dg es++Y)) 0)):=by
  show an (dX c 1 (ep L 6) (.slice u 0 L (.known L))) (fun r=>an (c.e3 a h r) fun c=>some (V.int .i64 (.ofNat (ep L 6)),c))=_;rw[o];have l:dX c 1 L (.slice u 0 L (.known L))=some (ct es):=by
   show c.cP u 0 (L*1)=_;rw[fI k,dA,ef,iU (by rw[j5,hl])]
  rw[l];show an (c.e3 a h (ct es)) _=_;unfold af.e3;rw[j];show an (aQ (cK (ct es)) (an (cz (ct es) (X++(oa++Y)) h) fun f=>some (c.set a (.cells f 0)))) _=_;rw[yI,q];rfl
 rw[g];exact n
theorem ang(a:List Nat)(n:Nat)(h:0<n∧n≤6)(hl:a.length=n)(i:a.sum≤24)(H:af)(e:Nat)(c:Cap)(f:H.get e=.cells (ct a) 0):c5 224 [.slice e 0 n c] H fun v d=>v=bE∧d=H:=by
 have g:bO H (af.zero H.next) (.slice e 0 n c) (bI a):=by
  unfold bI;rw[hl];refine .row (m:=n) (cs:=ct a) ?_ h.1 (af.e7 _ _) (cD.refl _);rw[fI f,dA,iU (by rw[j5,hl])]
 refine vb (R:=fun v=>v=bE) (.cons g .nil) ((Gr a aa i _).mono ?_);rintro _ _ ⟨rfl,rfl⟩;exact⟨_,fun b=>.bool _,rfl⟩
theorem PB(n i:Nat)(s:0<n∧n≤6)(hi:i<2)(x:List UInt8)(q:Rat)(Y:numOf x=some q)(Z:x.length≤500)(a:List Nat)(hl:a.length=n)(S:a.sum≤24)(T be e:Nat)(c:Cap)(j A B:List V)(M:cj (ej j (i*2)) 2=some [.str x,.slice e 0 n (.known n)])(F:Fr)(H:af)(R:X→Fr→af→Prop)
 (G:rd 0 F=ah (n:Int)) (I:rd 6 F=.slice be 0 2 (.known 2)) (k:rd 21 F=.slice T 0 2 c) (l:rd 22 F=ah 2) (m:rd 23 F=ah (i:Int))
 (J:H.get T=.cells j 0) (o:H.get e=.cells (ct a) 0) (K:H.get be=.cells (A++(oa++([aC,.ak,aC,.ak]++B))) 0) (f:A.length=i*10) (O:GT H) (hT:T<H.next) (he:e<H.next) (hb:be<H.next) (a4:5≤be) (Q:e≠be)
 (L:∀b d,(∀t,t<7→rd t b=rd t F)→rd 21 b=.slice T 0 2 c→rd 22 b=ah 2→rd 23 b=ah ((i+1:Nat):Int)→d.get be=.cells (A++(bM (q,a)++B)) 0→(∀y,y<H.next→y≠be→d.get y=H.get y)→H.next≤d.next→R .norm b d):
 bw (pc 154 3) R F H:=by
 have N:decide ((i:Int)<2)=true:=bm aa;have w1:aB .i64 ((i:Int)+1)=((i+1:Nat):Int):=by rw[aI _ aa];rfl
 have ac:eo none 2 [.slice T 0 2 c,ah (i:Int)]=some (.val (.ptr T (i*2))):=by rw[bW aa];simp
 have ad:eo none 10 [.slice be 0 2 (.known 2),ah (i:Int)]=some (.val (.ptr be (i*10))):=by rw[bW aa];simp
 have n1:¬H.next=T:=aa
 have g:=G8 x Z;rw[Cc Y]at g;unfold c7 at g;simp only[go_sem,KX,KW,Xr,k,l,m,N,ac,J,M];refine ck g ((O.push aa _).set aa _) ?_;have u:aZ (.agg (b7 q))=true:=rfl;have v:cellsOf (.agg (b7 q))=b7 q:=rfl;have fU:cn (b7 q)=4:=rfl;have mK:cz (b7 q) [aC,.ak,aC,.ak] 0=some (b7 q):=rfl;have nW:cK (b7 q)=true:=rfl;have ae:cj (b7 q) 4=some (b7 q):=rfl;have P:c3 (.slice e 0 n (.known n))=some (.val (ah (n:Int))):=rfl;have w:¬H.next=e:=aa
 have al:¬H.next=be:=aa
 have am:¬H.next+1=be:=aa
 have z:¬H.next+1=e:=aa
 have ap:¬be=e:=fun h=>Q h.symm
 have C:¬H.next+1=H.next:=aa
 have ar:¬be=H.next:=aa
 simp only[go_sem,u,v,fU,mK,nW,P,G,C,fX,decide_true];refine(ang a n s hl S _ e (.known n) (by simp only[go_sem,w,z,o])).mono ?_;rintro _ D ⟨rfl,p⟩;rw[p];clear p D;have U:slice3 (nD 6 1) false false false [.ptr be (i*10)]=some (.val (.slice be (i*10) 6 (.known 6))):=rfl;have W:cz (b7 q) (A++(oa++([aC,.ak,aC,.ak]++B))) (i*10+6)=some (A++(oa++(b7 q++B))):=by
  have E:A++(oa++([V.bool false,.ak,aC,.ak]++B))=(A++oa)++([aC,.ak,aC,.ak]++B):=aE;have r:(A++oa).length=i*10+6:=by rw[aV,f];rfl
  rw[E,k8,ao (by simp only[aV,f];show i*10+6+4≤i*10+6+(4+B.length);omega),r9 r];congr 1;rw[show i*10+6+(b7 q).length=(A++oa).length+4 from by rw[r];rfl,←List.drop_drop,List.drop_left];simp
 simp only[go_sem,fX,I,ad,U,u,v,fU,nW,ae,W,al,am,C,ar,K];refine agB (X:=A) (Y:=b7 q++B) (es:=a) ?_ f ?_ hl s.2 ?_
 iterate 2 simp only[go_sem,w,z,ap,o]
 have a9:¬H.next=H.next+1:=aa
 simp only[go_sem,Xq,m,w1];refine L _ _ (fun t ht=>?_) ?_ ?_ ?_ ?_ (fun y hy ab=>?_) ?_
 ·simp(disch:=omega)only[bU]
 iterate 4 simp only[go_sem,k,l,bM,fl]
 ·have q1:¬H.next=y:=aa
  have a0:¬H.next+1=y:=aa
  have a1:¬be=y:=fun h=>ab h.symm
  simp only[go_sem,q1,a0,a1]
 ·simp only[go_sem];omega
theorem amV(n:Nat)(Q:0<n∧n≤6)(u w:List UInt8)(f i:Rat)(dp:numOf u=some f)(dq:numOf w=some i)(d5:u.length≤500)(d7:w.length≤500)(c':f.num≠0)(Z:bg 1000 f)(b2:bg 1000 i)(a e:List Nat)(l1:a.length=n)(l2:e.length=n)(W:a.sum≤24)(Y:e.sum≤24)
 (dd:d6 (.agg (dg a)) (.agg (dg a))=some true) (dl:d6 (.agg (dg e)) (.agg (dg e))=some true) (dk:d6 (.agg (dg e)) (.agg (dg a))=some false) (d3:ord (fC a) (fC e)=1) (d4:ord (fC e) (fC a)= -1)
 (H:af) (T o l:Nat) (c:Cap) (N:GT H) (am:H.get T=.cells [.str u,.slice o 0 n (.known n),.str w,.slice l 0 n (.known n)] 0) (ca:H.get o=.cells (ct a) 0) (cb:H.get l=.cells (ct e) 0) (ea:T<H.next) (ed:o<H.next) (eh:l<H.next) (c1:5≤H.next)
 (j:List ax) (s:j=(f,a)::ig (i,e)):
 c5 154 [ah (n:Int),.slice T 0 2 c] H fun v g=>∃k M m,v=.aA [.agg [ah (n:Int),.slice k 0 j.length (.known j.length)],ah 0]∧lQ g M n j m∧g.get k=.cells m 0∧H.next≤k∧H.next≤M∧(∀y,y<H.next→g.get y=H.get y)∧H.next≤g.next∧k<g.next:=by
 have a5:ig (f,a)=[(f,a)]:=aj c';have S:ig (i,e)=[]∨ig (i,e)=[(i,e)]:=by unfold ig;split<;>simp
 have da:0<j.length∧j.length≤1000:=by rw[s];rcases S with h|h<;>rw[h]<;>simp
 have P:∀t∈j,t=(f,a)∨t=(i,e):=by
  intro t r;rw[s]at r;rcases jr.1 r with h|h
  ·exact .inl h
  ·rcases S with h2|h2
   ·rw[h2]at h;cases h
   ·rw[h2]at h;exact .inr (ec.1 h)
 have bo:c3 (.slice T 0 2 c)=some (.val (ah 2)):=rfl;have d1:decide ((n:Int)<0)=false:=a_ aa;have d2:decide ((n:Int)>6)=false:=a_ aa;have ci:((1+1:Nat):Int)=2:=rfl;have d22:decide ((2:Int)<2)=false:=rfl;have c0:l7 112 [ah 0,ah 0,ah 0,ah 0,ah 0,ah 0,aC,.ak,aC,.ak] [ah 2,ah 2]=some (.new (oa++([aC,.ak,aC,.ak]++rZ)) (.slice 2 2)):=rfl;refine aT akb ?_;simp only[go_sem,d154,Xv,Xu,Xt,bo,d1,d2,c0];obtain⟨R,hR⟩:∃R:X→Fr→af→Prop,R=iY 0 (fD (bw (pc 154 4) (fu [gH.cell 4 true 2,gH.tmp 5] fun v g=>∃k M m,v=.aA [.agg [ah (n:Int),.slice k 0 j.length (.known j.length)],ah 0]∧lQ g M n j m∧g.get k=.cells m 0∧H.next≤k∧H.next≤M∧(∀y,y<H.next→g.get y=H.get y)∧H.next≤g.next∧k<g.next)) (fu [gH.cell 4 true 2,gH.tmp 5] fun v g=>∃k M m,v=.aA [.agg [ah (n:Int),.slice k 0 j.length (.known j.length)],ah 0]∧lQ g M n j m∧g.get k=.cells m 0∧H.next≤k∧H.next≤M∧(∀y,y<H.next→g.get y=H.get y)∧H.next≤g.next∧k<g.next)):=⟨_,rfl⟩
 rw[←hR];have n1:¬H.next=T:=aa
 have n2:¬H.next+1=T:=aa
 have dv:¬H.next=o:=aa
 have dC:¬H.next+1=o:=aa
 have dE:¬H.next=l:=aa
 have dT:¬H.next+1=l:=aa
 have d0:¬H.next+1=H.next:=aa
 refine qV 3 ?_;rw[kE];refine PB n 0 Q ag u f dp d5 a l1 W T (H.next+1) o c [.str u,.slice o 0 n (.known n),.str w,.slice l 0 n (.known n)] [] rZ rfl _ _ _ ?_ ?_ ?_ ?_ ?_ ?_ ?_ ?_ rfl ?_ ?_ ?_ ?_ aa aa ?_
 iterate 4 simp only[go_sem]
 ·simp only[go_sem];rfl
 iterate 2 simp only[go_sem,n1,n2,am,dv,dC,ca]
 ·simp only[go_sem];rfl
 ·exact(N.push c1 _).push (by simp only[go_sem];omega) _
 ·simp only[go_sem];omega
 ·simp only[go_sem];omega
 ·simp only[go_sem];omega
 intro B g D ad ae al ap A c2;simp only[go_sem]at c2;have I:rd 0 B=ah (n:Int):=by rw[D 0 ag];simp only[go_sem]
 have J:rd 6 B=.slice (H.next+1) 0 2 (.known 2):=by rw[D 6 ag];simp only[go_sem]
 have ac:rd 4 B=.ptr H.next 0:=by rw[D 4 ag];simp only[go_sem]
 have a6:g.get T=.cells [.str u,.slice o 0 n (.known n),.str w,.slice l 0 n (.known n)] 0:=by rw[A T (by simp only[go_sem];omega) aa];simp only[go_sem,n1,n2,am]
 have a7:g.get l=.cells (ct e) 0:=by rw[A l (by simp only[go_sem];omega) aa];simp only[go_sem,dE,dT,cb]
 have a9:g.get H.next=.cells [ah 0,.ak] 0:=by rw[A _ (by simp only[go_sem];omega) aa];simp only[go_sem,d0]
 have U:∀y,y<H.next→g.get y=H.get y:=fun y p=>by
  rw[A y (by simp only[go_sem];omega) aa];have f:¬H.next=y:=aa
  have i:¬H.next+1=y:=aa
  simp only[go_sem,f,i]
 have a2:GT g:=N.keep fun y p=>U y aa
 clear A D;show qd eO 5 (pc 154 3) R 2 B g;rw[kE];refine PB n 1 Q ag w i dq d7 e l2 Y T (H.next+1) l c [.str u,.slice o 0 n (.known n),.str w,.slice l 0 n (.known n)] (bM (f,a)) [] rfl _ _ _ I J ad ae al a6 a7 ?_ (lU (t:=(f,a)) (by show a.length≤6;omega)) a2 aa aa aa aa aa ?_
 ·rw[ap];rfl
 intro C q E avb ahP b1 ar O el;have bs:rd 0 C=ah (n:Int):=by rw[E 0 ag];exact I
 have b0:rd 6 C=.slice (H.next+1) 0 2 (.known 2):=by rw[E 6 ag];exact J
 have bv:rd 4 C=.ptr H.next 0:=by rw[E 4 ag];exact ac
 have ds:q.get H.next=.cells [ah 0,.ak] 0:=by rw[O _ aa aa];exact a9
 have a8:∀y,y<H.next→q.get y=H.get y:=fun y p=>by rw[O y aa aa];exact U y p
 have a3:GT q:=N.keep fun y p=>a8 y aa
 rw[fN]at ar;clear O E I J ac a6 a7 a9 U a2 ad ae al ap;show qd eO 5 (pc 154 3) R 1 C q;rw[kE];simp only[go_sem,KX,KW,ahP,b1,ci,d22,hR];have m1:¬q.next=H.next+1:=aa
 have xF:((f,a):ax).2.length≤6:=by show a.length≤6;omega
 have bb:((i,e):ax).2.length≤6:=by show e.length≤6;omega
 simp only[go_sem,Xs,bs,b0];refine(UF (f,a) (i,e) xF bb dd dl dk Z b2 _ q.next (H.next+1) (.known 1) (.known 2) (a3.push aa _) ?_ ?_ ?_ ?_ ?_).mono ?_
 iterate 2 simp only[go_sem,m1,ar]
 ·simp only[go_sem];omega
 ·simp only[go_sem];omega
 ·simp only[go_sem];omega
 rintro _ G ⟨d,b,L,hd,rfl,b',aw,F,ce,cf,cs⟩;simp only[go_sem]at ce;have z:f_ (f,a) (i,e) d=(f,a)::ig (i,e)∨f_ (f,a) (i,e) d=ig (i,e)++[(f,a)]:=by
  rcases hd with rfl|rfl
  ·left;show ig (f,a)++(ig (i,e)++[])=_;rw[a5,fN];rfl
  ·right;show ig (i,e)++(ig (f,a)++[])=_;rw[a5];rfl
 have cp:(f_ (f,a) (i,e) d).length=j.length:=by
  rw[s];rcases z with h|h<;>rw[h]<;>simp[js]
 have V:∀y,y<H.next+1→G.get y=q.get y:=fun y p=>by
  rw[cs y (by simp only[go_sem];omega)];have f:¬q.next=y:=aa
  simp only[go_sem,f]
 have co:GT G:=a3.keep fun y p=>V y aa
 have db:∀x,x.get b=.cells L 0→c5 274 [.slice b 0 j.length (.known 2),.func 275 [] []] x fun _ g=>Au b j x g:=by
  intro x a1;rcases S with h2|h2
  ·rw[h2]at z s;have K:f_ (f,a) (i,e) d=[(f,a)]:=by rcases z with h|h<;>exact h
   rw[K]at F;rw[s];exact aqD (f,a) x b (.known 2) L a1 aw F
  ·rw[h2]at z s;have K:(f_ (f,a) (i,e) d).length=2:=by rcases z with h|h<;>rw[h]<;>rfl
   rw[K]at F;rw[s];exact aqE (f,a) (i,e) xF bb W Y d3 d4 _ z x b (.known 2) L a1 aw F
 rw[cp];simp only[go_sem];refine(ass n Q j (fun t r=>?_) (fun t r=>?_) (fun t r=>?_) da G b (.known 2) L co b' cf aa db).mono ?_
 ·rcases P t r with rfl|rfl
  ·exact l1
  ·exact l2
 ·rcases P t r with rfl|rfl
  ·exact W
  ·exact Y
 ·rcases P t r with rfl|rfl
  ·exact Z
  ·exact b2
 rintro _ H4 ⟨k,M,m,rfl,df,cd,d',d9,a4,em,eb⟩;have dt:H4.get H.next=.cells [ah 0,.ak] 0:=by rw[a4 _ aa aa,V _ aa,ds]
 simp only[go_sem,bv,dt];refine⟨k,M,m,rfl,df.keep (aF _) fun y d8 p eq h=>?_,?_,aa,aa,fun y p=>?_,aa,aa⟩
 ·rw[af.aK,aj aa];exact h
 ·rw[aj aa];exact cd
 ·rw[aj aa,a4 y aa aa,V y aa,a8 y p]
def U(n i:Nat):List Nat:=(aW n 0).set i 1
def Z(n:Nat):List Nat:=aW n 0
def jP(n i:Nat)(a b:Rat):List ax:=(a,U n i)::ig (b,Z n)
structure Av (n i:Nat):Prop where
 hn:0<n∧n≤2
 hi:i<n
 l1:(U n i).length=n
 l2:(Z n).length=n
 s1:(U n i).sum≤24
 s2:(Z n).sum≤24
 aiR:d6 (.agg (dg (U n i))) (.agg (dg (U n i)))=some true
 aiW:d6 (.agg (dg (Z n))) (.agg (dg (Z n)))=some true
 hts:d6 (.agg (dg (Z n))) (.agg (dg (U n i)))=some false
 anZ:ord (fC (U n i)) (fC (Z n))=1
 an0:ord (fC (Z n)) (fC (U n i))= -1
 FZ:rep [V.int .i64 0] n=ct (Z n)
 st:cz [V.int .i64 1] (ct (Z n)) i=some (ct (U n i))
theorem ym(n i:Nat)(a:n=1∨n=2)(hi:i<n):Av n i:=by
 have h:(n=1∧i=0)∨(n=2∧i=0)∨(n=2∧i=1):=aa;rcases h with⟨rfl,rfl⟩|⟨rfl,rfl⟩|⟨rfl,rfl⟩<;>exact⟨ag,ag,rfl,rfl,ag,ag,rfl,rfl,rfl,ag,ag,rfl,rfl⟩
theorem ahJ{e:Cap}(i:0<h)(hl:0<l.length)(d:lQ c a h l b)(hT:c.get u=.cells b 0)(g:I.get u=.none)(f:∀y,a≤y→I.get y=.none):bO c I (.slice u 0 l.length e) (eD l):=by
 refine .row (m:=l.length*2) (cs:=b) ?_ aa g (d.ahN i f);rw[fI hT,dA,iU d.len]
theorem Rw(n i:Nat)(F:n=1∨n=2)(hi:i<n)(a s:List UInt8)(c d:Rat)(A:numOf a=some c)(G:numOf s=some d)(L:a.length≤500)(N:s.length≤500)(B:c.num≠0)(ba:bg 1000 c)(bs:bg 1000 d):
 ew 99 [ah (n:Int),ah (i:Int),.str a,.str s] (gv n (jP n i c d)):=by
 have b:=ym n i F hi;have p:=b.hn;have z:=b.FZ;have H:=b.st;have E:l7 8 [ah 0] [ah (n:Int),ah (n:Int)]=some (.new (ct (Z n)) (.slice n n)):=by rw[iI aa,←z];simp
 have J:eo none 1 [.slice 6 0 n (.known n),ah (i:Int)]=some (.val (.ptr 6 i)):=by rw[bW aa];simp
 have C:bA (gv n (jP n i c d)):=sD n _;refine eK (.cons (.int _ _) (.cons (.int _ _) (.cons (.str _) (.cons (.str _) .nil)))) (aT al4 ?_);simp only[go_sem,d99,afQ,afP,afO,E,J,H];have k:GT (((((cU.push (.cells [ah 0,.ak] 0)).push (.cells (ct (Z n)) 0)).set 6 (.cells (ct (U n i)) 0)).push (.cells (ct (Z n)) 0)).push (.cells [.str a,.slice 6 0 n (.known n),.str s,.slice 7 0 n (.known n)] 0)):=ff;obtain⟨e,g⟩:∃e,e=((((cU.push (.cells [ah 0,.ak] 0)).push (.cells (ct (Z n)) 0)).set 6 (.cells (ct (U n i)) 0)).push (.cells (ct (Z n)) 0)).push (.cells [.str a,.slice 6 0 n (.known n),.str s,.slice 7 0 n (.known n)] 0):=⟨_,rfl⟩;have u:e.get 5=.cells [ah 0,.ak] 0:=by rw[g];simp only[go_sem]
 have v:e.get 6=.cells (ct (U n i)) 0:=by rw[g];simp only[go_sem]
 have bh:e.get 7=.cells (ct (Z n)) 0:=by rw[g];simp only[go_sem]
 have eY:e.get 8=.cells [.str a,.slice 6 0 n (.known n),.str s,.slice 7 0 n (.known n)] 0:=by rw[g];simp only[go_sem]
 have T:e.next=9:=by rw[g];simp only[go_sem]
 rw[←g]at k⊢;clear g;refine(amV n ⟨p.1,aa⟩ a s c d A G L N B ba bs (U n i) (Z n) b.l1 b.l2 b.s1 b.s2 b.aiR b.aiW b.hts b.anZ b.an0 e 8 6 7 (.known 2) k eY v bh aa aa aa aa (jP n i c d) rfl).mono ?_;rintro _ f ⟨j,M,P,rfl,I,w,S,R,o,V,x⟩;have K:f.get 5=.cells [ah 0,.ak] 0:=by rw[o 5 aa,u]
 have D:GT f:=k.keep fun y l=>o y aa
 have O:¬f.next=5:=aa
 simp only[go_sem,afN,O,K];have m:∀y,6≤y→y<f.next→(((f.push (.cells [ah 0,.ak] 0)).set f.next (.cells [ah (n:Int),.slice j 0 (jP n i c d).length (.known (jP n i c d).length)] 0)).set 5 (.cells [ah (n:Int),.slice j 0 (jP n i c d).length (.known (jP n i c d).length)] 0)).get y=f.get y:=fun y l q=>by
  have r:¬f.next=y:=aa
  have t:¬5=y:=aa;simp only[go_sem,r,t]
 refine⟨((D.push aa _).set aa _).set aa _,_,.agg (.cons (.same _) (.cons (ahJ p.1 (by unfold jP;simp) (I.keep (by simp only[go_sem];omega) fun y Q l q h=>(m y aa q).trans h) ((m j aa x).trans w) ?_ fun y l=>?_) .nil)),C,rfl⟩
 ·rw[af.sK,lG,aj aa,aj aa,aj aa]
 ·rw[af.sK,lG,aj aa,aj aa,aj aa]
def Q1:aP:=(.bP [ex 14 (mv (rd 12)),ex 15 (b6 none 2 (rd 10) (rd 12)),ex 16 (bq true 2 (rd 15)),ex 8 (alloc [(.str []),(.str [])]),ex 7 (bN (rd 14)),bF (st 2 (rd 8) (rd 16))])
def Cq:aP:=(.seq (.bP [ex 17 (fa 0 (rd 8)),ex 18 (bq false 1 (rd 17)),ex 19 (bs .neq (rd 18) (kc (.str [])))]) (.cond (rd 19) (.bP [ex 20 (mv (rd 6)),ex 21 (fa 0 (rd 3)),ex 22 (bq false 1 (rd 21)),ex 23 (cY (rd 22)),ex 24 (mv (rd 7)),ex 25 (fa 0 (rd 8)),ex 26 (bq false 1 (rd 25)),ex 27 (bY 100 [(rd 26)]),re 22 (bq false 1 (rd 21)),ex 28 (bY 99 [(rd 23),(rd 24),(kc (.str [49])),(rd 27)]),ex 29 (cQ 1 [(0,2)] [(ah 0),.ak] [(rd 28)]),ex 30 (ap 2 32 (rd 20) (rd 29)),ex 6 (bN (rd 30))]) .skip))
def Hj:aP:=(.bP [ex 31 (fa 1 (rd 8)),ex 32 (bq false 1 (rd 31)),ex 33 (bs .neq (rd 32) (kc (.str [])))])
def Hl:aP:=(.cond (rd 33) (.bP [ex 34 (mv (rd 6)),ex 35 (fa 0 (rd 3)),ex 36 (bq false 1 (rd 35)),ex 37 (cY (rd 36)),ex 38 (mv (rd 7)),ex 39 (fa 1 (rd 8)),ex 40 (bq false 1 (rd 39)),ex 41 (bY 99 [(rd 37),(rd 38),(kc (.str [45,49])),(rd 40)]),ex 42 (cQ 1 [(0,2)] [(ah 0),.ak] [(rd 41)]),ex 43 (ap 2 32 (rd 34) (rd 42)),ex 6 (bN (rd 43))]) .skip)
def jT(H:af):Prop:=∀y,y<5→H.get y=cU.get y
theorem jT.gt(h:jT c):GT c:=fun y a e=>by rw[h y (yb.cells e).1];exact e
theorem aiP:jT cU:=fun _ _=>rfl
theorem jT.keep{H':af}(h:jT c)(b:∀y,y<5→H'.get y=c.get y):jT H':=fun y a=>(b y a).trans (h y a)
theorem jT.set(h:jT c)(b:5≤a)(o:cR):jT (c.set a o):=h.keep fun y d=>by rw[af.aK,aj aa]
theorem jT.push(h:jT c)(a:5≤c.next)(o:cR):jT (c.push o):=h.keep fun y b=>by rw[af.aY,aj aa]
theorem jT.PV(h:jT c)(d:a<5)(b f:Nat):c.get a≠ .bD b f:=by
 rw[h a d,lG];intro e;split at e
 ·cases e
 ·split at e
  ·cases e
  ·split at e<;>cases e
theorem jT.cells(d:jT c)(g:a<5)(e:c.get a=.cells b h):h=0:=by
 rw[d a g]at e;exact(yb.cells e).2.1
def lf(x:List UInt8):Prop:=x=[]∨(numOf x=some (rv x)∧bg 81 (rv x)∧x.length≤500)
variable{j:List UInt8}
theorem lf.num(h:lf j)(a:j≠[]):numOf j=some (rv j)∧bg 81 (rv j)∧j.length≤500:=h.resolve_left a
theorem M7:dec 1=[49]:=afT.2 rfl
theorem art:bf (1:Rat)=[49]:=by
 unfold bf;rw[aj ag,show(1:Rat).num.natAbs=1 from rfl,M7,ao (show(1:Rat).den=1 from rfl)];rfl
theorem arx:bf (-1:Rat)=[45,49]:=by
 unfold bf;rw[ao ag,show(-1:Rat).num.natAbs=1 from rfl,M7,ao (show(-1:Rat).den=1 from rfl)];rfl
theorem GZ:bg 1 1:=⟨ag,ag⟩
theorem GY:bg 1 (-1):=⟨ag,ag⟩
theorem anW:numOf [49]=some 1:=by have:=pE 1;rwa[art]at this
theorem anV:numOf [45,49]=some (-1):=by have:=pE (-1);rwa[arx]at this
def sR(n i:Nat)(x:List UInt8):List (List ax):=if x=[]then []else [jP n i 1 (-(rv x))]
def tX(n i:Nat)(x:List UInt8):List (List ax):=if x=[]then []else [jP n i (-1) (rv x)]
variable{w:Rat}
theorem Ci(h:bg a w):bg a (-w):=⟨by rw[Rat.neg_num,mY];exact h.num,by rw[Rat.neg_den];exact h.den⟩
theorem apx(n:Nat)(L:n=1∨n=2)(i:Nat)(hi:i<n)(lo I:List UInt8)(J:lf lo)(bs:List dR)(G:bs.length=n)(x:Nat)(v:V)(d:List V)(g:Nat)(F:Fr)(H:af)(R:X→Fr→af→Prop)(K:Fr→af→Prop)
 (A:rd 3 F=.ptr 6 0) (k:rd 6 F=v) (B:rd 7 F=ah (i:Int)) (l:rd 8 F=.ptr x 0) (m:H.get 6=.cells [bu bR bs] 0) (o:H.get x=.cells [.str lo,.str I] 0) (c:aH H 2 v d g) (Y:d.length≤1000) (b:jT H) (U:8≤H.next) (W:x<H.next)
 (q:∀e a w C,(∀t,t<13→t≠6→rd t e=rd t F)→rd 6 e=w→aH a 2 w (d++fW n (sR n i lo)) C→(∀y f,y<H.next→H.get y=.cells f 0→a.get y=.cells f 0)→jT a→H.next≤a.next→K e a):
 bw Cq (fD K R) F H:=by
 by_cases hl:lo=[]
 ·subst hl;simp only[go_sem,Cq,l,o,decide_true,fX];refine q _ _ v g (fun t N _=>?_) ?_ ?_ (fun _ _ _ h=>h) b (aF _)
  ·simp(disch:=omega)only[bU]
  ·simp only[go_sem,k]
  ·show aH H 2 v (d++[]) g;rw[fN];exact c
 ·obtain⟨S,p,E⟩:=J.num hl;have M:=anA lo E;have r:=Rw n i L hi [49] (bf (-(rv lo))) 1 (-(rv lo)) anW (pE _) ag (by have:=CY (q:= -(rv lo)) ((Ci p).mono ag);omega) ag (GZ.mono ag) ((Ci p).mono ag);have z:c3 (bu bR bs)=some (.val (ah (n:Int))):=by rw[←G];rfl
  have s:cK (bS n (jP n i 1 (-(rv lo))))=true:=rfl;unfold gv bS at r;unfold bS at s;simp only[go_sem,Cq,A,k,B,l,m,o,a_ hl,je,z];refine ck M b.gt ?_;simp only[go_sem,m,true_and];refine ck r b.gt ?_;simp only[go_sem];refine gA (bytes:=32) c rfl ag s ⟨aa,ag⟩ fun P Q D O Z u ab=>?_
  simp only[go_sem];refine q _ _ P D (fun t N T=>?_) ?_ ?_ (fun y f j h=>(u y j (c.ne h)).trans h) (b.keep fun y j=>u y aa (c.tO (b.PV j))) aa
  ·simp(disch:=omega)only[bU]
  ·simp only[go_sem]
  ·rw[sR,aj hl];simpa [fW,bS]using O
def Cr:aP:=.seq Hj Hl
theorem apy(n:Nat)(L:n=1∨n=2)(i:Nat)(hi:i<n)(lo a:List UInt8)(K:lf a)(bs:List dR)(J:bs.length=n)(x:Nat)(v:V)(e:List V)(g:Nat)(F:Fr)(H:af)(R:X→Fr→af→Prop)
 (z:rd 3 F=.ptr 6 0) (l:rd 6 F=v) (A:rd 7 F=ah (i:Int)) (m:rd 8 F=.ptr x 0) (D:H.get 6=.cells [bu bR bs] 0) (o:H.get x=.cells [.str lo,.str a] 0) (d:aH H 2 v e g) (U:e.length≤1000) (c:jT H) (S:8≤H.next) (T:x<H.next)
 (p:∀f b u B,(∀t,t<13→t≠6→rd t f=rd t F)→rd 6 f=u→aH b 2 u (e++fW n (tX n i a)) B→(∀y j,y<H.next→H.get y=.cells j 0→b.get y=.cells j 0)→jT b→H.next≤b.next→R .norm f b):
 bw Cr R F H:=by
 by_cases hl:a=[]
 ·subst hl;simp only[go_sem,Cr,Hj,Hl,m,o,decide_true,fX];refine p _ _ v g (fun t M _=>?_) ?_ ?_ (fun _ _ _ h=>h) c (aF _)
  ·simp(disch:=omega)only[bU]
  ·simp only[go_sem,l]
  ·show aH H 2 v (e++[]) g;rw[fN];exact d
 ·obtain⟨E,G,I⟩:=K.num hl;have q:=Rw n i L hi [45,49] a (-1) (rv a) anV E ag I ag (GY.mono ag) (G.mono ag);have w:c3 (bu bR bs)=some (.val (ah (n:Int))):=by rw[←J];rfl
  have r:cK (bS n (jP n i (-1) (rv a)))=true:=rfl;unfold gv bS at q;unfold bS at r;simp only[go_sem,Cr,Hj,Hl,z,l,A,m,D,o,a_ hl,je,w];refine ck q c.gt ?_;simp only[go_sem];refine gA (bytes:=32) d rfl ag r ⟨aa,ag⟩ fun O P C N W s Y=>?_
  simp only[go_sem];refine p _ _ O C (fun t M Q=>?_) ?_ ?_ (fun y j k h=>(s y k (d.ne h)).trans h) (c.keep fun y k=>s y aa (d.tO (c.PV k))) aa
  ·simp(disch:=omega)only[bU]
  ·simp only[go_sem]
  ·rw[tX,aj hl];simpa [fW,bS]using N
theorem TY:(pc 54 1)=(.seq (.block 1 (.seq Q1 (.seq Cq Cr))) (pc 54 0)):=aeo
def ij(n:Nat):Nat→List dR→List (List ax)
 |_,[]=>[]
 |j,s::l=>sR n j s.1++tX n j s.2++ij n (j+1) l
theorem Q2(n:Nat)(s:dR):∀(j:Nat) (l:List dR),ij n j (l++[s])=ij n j l++(sR n (j+l.length) s.1++tX n (j+l.length) s.2)
 |j,[]=>by simp[ij]
 |j,a::l=>by
  simp only[eL,ij,Q2 n s (j+1) l,cV,fl];rw[(aa:j+1+l.length=j+(l.length+1))]
theorem Po(n i:Nat)(x:List UInt8):(sR n i x).length≤1:=by unfold sR;split<;>simp
theorem aiN(n i:Nat)(x:List UInt8):(tX n i x).length≤1:=by unfold tX;split<;>simp
theorem xT(n:Nat):∀(j:Nat) (l:List dR),(ij n j l).length≤2*l.length
 |_,[]=>aF 0
 |j,s::l=>by
  have:=xT n (j+1) l;have:=Po n j s.1;have:=aiN n j s.2;simp only[ij,aV,cV];omega
variable{f:Type}
theorem CQ{l:List f}{t:f}(h:l[a]? =some t):l.take (a+1)=l.take a++[t]:=by
 obtain⟨b,rfl⟩:=gZ.1 h;exact kU b
def II(n:Nat)(bs:List dR)(a:List V)(k:Nat)(F:Fr)(H:af):Prop:=∃(i:Nat) (v:V) (g:Nat),k=n-i∧i≤n∧rd 2 F=.ptr 5 0∧rd 3 F=.ptr 6 0∧rd 4 F=.ptr 7 0∧rd 6 F=v∧rd 10 F=bu bR bs∧rd 11 F=ah (n:Int)∧rd 12 F=ah (i:Int)∧
 H.get 5=.cells a 0∧H.get 6=.cells [bu bR bs] 0∧H.get 7=.cells [.ak,ah 0,.ak,.ak,.ak] 0∧jT H∧8≤H.next∧aH H 2 v (fW n (ij n 0 (bs.take i))) g
theorem apA(n:Nat)(M:n=1∨n=2)(bs:List dR)(J:bs.length=n)(a0:∀s∈bs,lf s.1∧lf s.2)(z:List V)(F:Fr)(H:af)(R:X→Fr→af→Prop)(k:Nat)(hI:II n bs z k F H)
 (hR:∀e c v g,rd 2 e=.ptr 5 0→rd 4 e=.ptr 7 0→rd 6 e=v→c.get 5=.cells z 0→c.get 6=.cells [bu bR bs] 0→c.get 7=.cells [.ak,ah 0,.ak,.ak,.ak] 0→jT c→8≤c.next→aH c 2 v (fW n (ij n 0 bs)) g→R (.exit 0) e c):
 bw (.loop (pc 54 3)) R F H:=by
 refine bK (II n bs z) k hI ?_;rintro m a5 a ⟨i,v,g,rfl,a8,C,q,D,E,B,o,p,G,j,bh,I,ar,u⟩;rw[aep];by_cases L:i<n
 ·obtain⟨s,x⟩:∃s,bs[i]? =some s:=⟨bs[i],cx aa⟩;have a1:=a0 s (eN x);have A:=gi mT x;have r:decide ((i:Int)<(n:Int))=true:=bm aa;have w1:aB .i64 ((i:Int)+1)=((i+1:Nat):Int):=by rw[aI _ aa];rfl
  have am:=eU (f:=bR) (k:=2) (l:=bs) (i:=(i:Int)) (ik:=.i64) aa;have a2:=xT n 0 (bs.take i);rw[dP]at a2;have a':=rY n (ij n 0 (bs.take i));obtain⟨lo,hi⟩:=s;obtain⟨O,P⟩:=a1;simp only at O P;simp only[bR]at A;simp only[go_sem,MP,TY,Q1,B,o,p,r,am,bH,A];have bc:¬a.next=5:=aa
  have bd:¬a.next=6:=aa
  have be:¬a.next=7:=aa
  have w:∀y,y<a.next→((a.push (.cells [.str [],.str []] 0)).set a.next (.cells [.str lo,.str hi] 0)).get y=a.get y:=fun y N=>by
   rw[af.aK,aj aa,af.aY,aj aa]
  refine apx n M i L lo hi O bs J a.next v _ g _ _ _ _ ?_ ?_ ?_ ?_ ?_ ?_ (u.low w (by simp only[go_sem];omega)) aa ((I.push aa _).set aa _) ?_ ?_ ?_
  iterate 4 simp only[go_sem,q,E]
  ·rw[w 6 aa];exact j
  ·simp only[go_sem]
  ·simp only[go_sem];omega
  ·simp only[go_sem];omega
  intro a6 S v2 Y b U ae K Z aw;simp only[go_sem]at aw;have ll:=Po n i lo;have ba:=rY n (sR n i lo);have l:∀y f,y<a.next→a.get y=.cells f 0→S.get y=.cells f 0:=fun y f N h=>K y f (by simp only[go_sem];omega) ((w y N).trans h)
  refine apy n M i L lo hi P bs J a.next v2 _ Y _ _ _ ?_ U ?_ ?_ (l 6 _ aa j) ?_ ae ?_ Z aa aa ?_
  ·rw[b 3 ag ag];simp only[go_sem,q]
  ·rw[b 7 ag ag];simp only[go_sem]
  ·rw[b 8 ag ag];simp only[go_sem]
  ·refine K _ _ (by simp only[go_sem];omega) ?_;simp only[go_sem]
  ·rw[aV];omega
  intro Q H3 v3 g3 d W al t ab a9;have T:rd 12 Q=ah (i:Int):=by rw[d 12 ag ag,b 12 ag ag];simp only[go_sem,p]
  simp only[go_sem,aen,T,w1];refine⟨n-(i+1),aa,i+1,v3,g3,rfl,aa,?_,?_,?_,?_,?_,?_,?_,t _ _ aa (l _ _ aa G),t _ _ aa (l _ _ aa j),t _ _ aa (l _ _ aa bh),ab,aa,?_⟩
  ·simp only[go_sem];rw[d 2 ag ag,b 2 ag ag];simp only[go_sem,C]
  ·simp only[go_sem];rw[d 3 ag ag,b 3 ag ag];simp only[go_sem,q]
  ·simp only[go_sem];rw[d 4 ag ag,b 4 ag ag];simp only[go_sem,D]
  ·simp only[go_sem];exact W
  ·simp only[go_sem];rw[d 10 ag ag,b 10 ag ag];simp only[go_sem,B]
  ·simp only[go_sem];rw[d 11 ag ag,b 11 ag ag];simp only[go_sem,o]
  ·simp only[go_sem]
  ·rw[CQ x,Q2,dP,eJ,m4 aa,wk,wk,←fl];exact al
 ·have ap:i=n:=aa;subst ap;have r:decide ((i:Int)<(i:Int))=false:=a_ aa;rw[b8 aa]at u;simp only[go_sem,MP,o,p,r];refine hR _ _ v g ?_ ?_ ?_ G j bh I ar u
  iterate 3 simp only[go_sem,C,D,E]
theorem GL(n i:Nat)(a:n=1∨n=2)(hi:i<n):ord (U n i) (Z n)=1:=by
 have h:(n=1∧i=0)∨(n=2∧i=0)∨(n=2∧i=1):=aa;rcases h with⟨rfl,rfl⟩|⟨rfl,rfl⟩|⟨rfl,rfl⟩<;>decide
theorem Rv(n i:Nat)(g:n=1∨n=2)(hi:i<n)(c d:Rat)(e:bg 100 c)(f:c.num≠0)(h:bg 100 d):iX n (jP n i c d):=by
 have a:=ym n i g hi;unfold jP ig;by_cases b:d.num=0
 ·rw[ao b];exact⟨fun t ht=>by rw[ec.1 ht];exact⟨e,f,a.l1,a.s1⟩,List.pairwise_singleton _ _,aE⟩
 ·rw[aj b];refine⟨fun t ht=>?_,?_,aE⟩
  ·rcases jr.1 ht with rfl|ht
   ·exact⟨e,f,a.l1,a.s1⟩
   ·rw[ec.1 ht];exact⟨h,b,a.l2,a.s2⟩
  ·refine tA.2 ⟨fun t ht=>?_,List.pairwise_singleton _ _⟩;rw[ec.1 ht];exact GL n i g hi
theorem Ho(n:Nat)(b:n=1∨n=2):∀(j:Nat) (l:List dR),j+l.length≤n→(∀s∈l,lf s.1∧lf s.2)→∀q∈ij n j l,iX n q
 |_,[],_,_,q,hq=>by cases hq
 |j,s::l,e,d,q,hq=>by
  rw[cV]at e;have a:=d s aE;rw[ij]at hq;rcases hN.1 hq with hq|hq
  ·rcases hN.1 hq with hq|hq
   ·unfold sR at hq;split at hq
    ·cases hq
    ·rename_i c;rw[ec.1 hq];exact Rv n j b aa _ _ (GZ.mono ag) ag ((Ci (a.1.num c).2.1).mono ag)
   ·unfold tX at hq;split at hq
    ·cases hq
    ·rename_i c;rw[ec.1 hq];exact Rv n j b aa _ _ (GY.mono ag) ag ((a.2.num c).2.1.mono ag)
  ·exact Ho n b (j+1) l aa (fun s a=>d s (by simp[a])) q hq
theorem apl(p:fc)(h:p.az)(bs:List dR)(k:bs.length=p.n)(o:∀s∈bs,lf s.1∧lf s.2):ew 54 [j0 p,hY bs] (.aA [lR p.n p.obj (p.is++ij p.n 0 bs) p.es,ah 0]):=by
 have c:=h.n;have J:=xT p.n 0 bs;have E:=Ho p.n c 0 bs aa o;have d:=ag6 p h (ij p.n 0 bs) E aa;have C:bA (.aA [lR p.n p.obj (p.is++ij p.n 0 bs) p.es,ah 0]):=.aA (.cons (vn _ c _ _ _) (.cons (.int _ _) .nil));refine eK (.cons (tQ p c) (.cons (o8 bs) .nil)) (D5 hT b5 gb O2.1 O2.2 (by kernel_rfl) 3 50 rfl rfl ?_);unfold j0 hY;simp only[go_sem,d54,aes,aer,aP.cutAt,k];refine apA p.n c bs k o (su p) _ _ _ p.n ⟨0,.ak,0,rfl,b4 _,?_,?_,?_,?_,?_,?_,?_,?_,?_,?_,?_,?_,.nil⟩ ?_
 iterate 6 simp only[go_sem]
 ·simp only[go_sem];rfl
 ·simp only[go_sem];rfl
 iterate 2 simp only[go_sem]
 ·exact((aiP.push ag _).push (by simp only[go_sem];decide) _).push (by simp only[go_sem];decide) _
 ·simp only[go_sem];decide
 intro a b v g w x z i A bh j I D;have m:∀y f g,y<8→b.get y=.cells f g→g=0:=fun y f g F e=>by
  by_cases B:y<5
  ·exact j.cells B e
  ·rcases(aa:y=5∨y=6∨y=7)with rfl|rfl|rfl
   ·rw[i]at e;cases e;rfl
   ·rw[A]at e;cases e;rfl
   ·rw[bh]at e;cases e;rfl
 rw[fF];simp only[go_sem];refine Ii (b.low 8) (fun t=>if t=6 then cB p.n (ij p.n 0 bs)else if t=2∨t=4 then rd t a else .any) (Ec ag m) (fun t K=>?_) ?_
 ·show bO _ _ _ (if t=6 then _ else _);by_cases h:t=6
  ·subst h;rw[ao rfl,z];exact D.FT ag m (rY _ _)
  ·rw[aj h];split
   ·exact .same _
   ·exact .any _
 have q:rd 2 (k9 (fun t=>if t=6 then cB p.n (ij p.n 0 bs)else if t=2∨t=4 then rd t a else .any) 50)=.ptr 5 0:=by rw[qI _ ag];exact w
 have r:rd 4 (k9 (fun t=>if t=6 then cB p.n (ij p.n 0 bs)else if t=2∨t=4 then rd t a else .any) 50)=.ptr 7 0:=by rw[qI _ ag];exact x
 have u:rd 6 (k9 (fun t=>if t=6 then cB p.n (ij p.n 0 bs)else if t=2∨t=4 then rd t a else .any) 50)=cB p.n (ij p.n 0 bs):=by rw[qI _ ag];rfl
 generalize k9 (fun t=>if t=6 then cB p.n (ij p.n 0 bs)else if t=2∨t=4 then rd t a else .any) 50=H at q r u
 have G:(b.low 8).get 5=.cells (su p) 0:=by rw[af.qt,ao ag];exact i
 have fU:(b.low 8).get 7=.cells [.ak,ah 0,.ak,.ak,.ak] 0:=by rw[af.qt,ao ag];exact bh
 have l:GT (b.low 8):=j.gt.keep fun y F=>by rw[af.qt,ao aa]
 unfold j0 at d;unfold lR iw at d;simp only[go_sem,aeq,q,u,G,su];refine ck d l ?_;simp only[go_sem,r,fU];exact cg (l.set ag _) rfl C
def Ih:aP:=(.bP [ex 17 (b6 none 2 (rd 13) (rd 15)),ex 18 (bq true 2 (rd 17)),ex 6 (alloc [(.str []),(.str [])]),bF (st 2 (rd 6) (rd 18))])
def yp:aP:=(.seq (.bP [ex 19 (fa 0 (rd 6)),ex 20 (bq false 1 (rd 19)),ex 21 (bs .neq (rd 20) (kc (.str []))),ex 22 (mv (rd 21)),bC 22 true 23 (fa 0 (rd 6)),bC 22 true 24 (bq false 1 (rd 23)),bC 22 true 25 (bY 72 [(rd 24)]),bC 22 true 26 (not (rd 25)),ex 27 (pick (rd 22) (rd 26) (kc aC)),ex 28 (mv (rd 27)),bC 28 false 29 (fa 1 (rd 6)),bC 28 false 30 (bq false 1 (rd 29)),bC 28 false 31 (bs .neq (rd 30) (kc (.str []))),bC 28 false 32 (mv (rd 31)),bC 32 true 33 (fa 1 (rd 6)),bC 32 true 34 (bq false 1 (rd 33)),bC 32 true 35 (bY 72 [(rd 34)]),bC 32 true 36 (not (rd 35)),bC 28 false 37 (pick (rd 32) (rd 36) (kc aC)),ex 38 (pick (rd 28) (kc bE) (rd 37))]) (.cond (rd 38) (.seq (.bP [ex 4 (bN (kc aC))]) .ret) .skip))
def Ai:aP:=(.bP [ex 39 (fa 0 (rd 6)),ex 40 (bq false 1 (rd 39)),ex 41 (bs .neq (rd 40) (kc (.str []))),ex 42 (mv (rd 41)),bC 42 true 43 (fa 1 (rd 6)),bC 42 true 44 (bq false 1 (rd 43)),bC 42 true 45 (bs .neq (rd 44) (kc (.str []))),ex 46 (pick (rd 42) (rd 45) (kc aC)),ex 47 (mv (rd 46)),bC 47 true 48 (fa 0 (rd 6)),bC 47 true 49 (bq false 1 (rd 48)),bC 47 true 50 (fa 1 (rd 6)),bC 47 true 51 (bq false 1 (rd 50)),bC 47 true 52 (bY 57 [(rd 49),(rd 51)]),bC 47 true 53 (bi .geq (rd 52) (kc (ah 0))),ex 54 (pick (rd 47) (rd 53) (kc aC))])
def C0:aP:=(.cond (rd 54) (.seq (.bP [ex 4 (bN (kc aC))]) .ret) .skip)
def Aj:aP:=.seq Ai C0
theorem TZ:(pc 61 1)=(.seq (.block 1 (.seq Ih (.seq yp Aj))) (pc 61 0)):=aeI
def nw(x:List UInt8):Bool:=decide (x=[])||(numOf x).isSome
def lM(s:dR):Bool:=(nw s.1&&nw s.2)&& !((!decide (s.1=[])&& !decide (s.2=[]))&& !decide (gj (rv s.1-rv s.2)<0))
theorem arW(lo hi:List UInt8)(o:lo.length≤500)(n:hi.length≤500)(x:Nat)(F:Fr)(H:af)(K:Fr→af→Prop)(R:X→Fr→af→Prop)(f:rd 6 F=.ptr x 0)(g:H.get x=.cells [.str lo,.str hi] 0)(h:GT H)
 (a:(nw lo&&nw hi)=true→∀d,(∀t,t<16→rd t d=rd t F)→K d H) (b:(nw lo&&nw hi)=false→∀d,rd 4 d=aC→R .ret d H):
 bw yp (fD K R) F H:=by
 have m:=wj lo o;have j:=wj hi n;obtain⟨p,k⟩:∃p,p=(numOf lo).isSome:=⟨_,rfl⟩;obtain⟨q,l⟩:∃q,q=(numOf hi).isSome:=⟨_,rfl⟩;unfold nw at a b;rw[←k,←l]at a b;rw[←k]at m;rw[←l]at j;by_cases e:lo=[]
 ·rw[bm e]at a b;by_cases c:hi=[]
  ·rw[bm c]at a b;simp only[go_sem,yp,f,g,bm e,bm c,fX];exact a rfl _ fun t i=>by simp(disch:=omega)only[bU]
  ·rw[a_ c]at a b;simp only[go_sem,yp,f,g,bm e,a_ c,fX,je];refine ck j h ?_;cases q
   ·simp only[go_sem,je];exact b rfl _ (by simp only[go_sem])
   ·simp only[go_sem,fX];exact a rfl _ fun t i=>by simp(disch:=omega)only[bU]
 ·rw[a_ e]at a b;simp only[go_sem,yp,f,g,a_ e,je];refine ck m h ?_;cases p
  ·simp only[go_sem,je];exact b rfl _ (by simp only[go_sem])
  ·by_cases c:hi=[]
   ·rw[bm c]at a b;simp only[go_sem,f,g,bm c,fX];exact a rfl _ fun t i=>by simp(disch:=omega)only[bU]
   ·rw[a_ c]at a b;simp only[go_sem,f,g,a_ c,fX,je];refine ck j h ?_;cases q
    ·simp only[go_sem,je];exact b rfl _ (by simp only[go_sem])
    ·simp only[go_sem,fX];exact a rfl _ fun t i=>by simp(disch:=omega)only[bU]
theorem arX(lo hi:List UInt8)(o:lo.length≤500)(n:hi.length≤500)(j:bg 100 (rv lo))(k:bg 100 (rv hi))(x:Nat)(F:Fr)(H:af)(R:X→Fr→af→Prop)(g:rd 6 F=.ptr x 0)(h:H.get x=.cells [.str lo,.str hi] 0)(m:GT H)
 (a:((!decide (lo=[])&& !decide (hi=[]))&& !decide (gj (rv lo-rv hi)<0))=false→∀c,(∀t,t<16→rd t c=rd t F)→R .norm c H)
 (b:((!decide (lo=[])&& !decide (hi=[]))&& !decide (gj (rv lo-rv hi)<0))=true→∀c,rd 4 c=aC→R .ret c H):
 bw Aj R F H:=by
 have l:=yT lo hi o n j k ag;by_cases d:lo=[]
 ·rw[bm d]at a b;simp only[go_sem,Aj,Ai,C0,g,h,bm d,fX];exact a rfl _ fun t i=>by simp(disch:=omega)only[bU]
 ·rw[a_ d]at a b;by_cases e:hi=[]
  ·rw[bm e]at a b;simp only[go_sem,Aj,Ai,C0,g,h,a_ d,bm e,fX,je];exact a rfl _ fun t i=>by simp(disch:=omega)only[bU]
  ·rw[a_ e]at a b;simp only[go_sem,Aj,Ai,C0,g,h,a_ d,a_ e,je];refine ck l m ?_;by_cases f:gj (rv lo-rv hi)<0
   ·rw[bm f]at a;simp only[go_sem,bm f,fX];exact a rfl _ fun t i=>by simp(disch:=omega)only[bU]
   ·rw[a_ f]at b;simp only[go_sem,a_ f,je];exact b rfl _ (by simp only[go_sem])
def zZ(s:dR):Prop:=s.1.length≤20∧s.2.length≤20
def IP(l:List dR)(a:Fr)(k:Nat)(F:Fr)(H:af):Prop:=∃i:Nat,k=l.length-i∧i≤l.length∧rd 2 F=.ptr 5 0∧rd 13 F=bu bR l∧rd 14 F=ah (l.length:Int)∧rd 15 F=ah (i:Int)∧GT H∧6≤H.next∧(l.take i).all lM=true
theorem arY(l:List dR)(S:∀s∈l,zZ s)(hl:l.length≤1000)(F:Fr)(H:af)(R:X→Fr→af→Prop)(k:Nat)(M:IP l F k F H)
 (N:l.all lM=true→∀f b,GT b→R (.exit 0) f b) (C:l.all lM=false→∀f b,rd 4 f=aC→GT b→R .ret f b):
 bw (.loop (pc 61 3)) R F H:=by
 refine bK (IP l F) k M ?_;rintro m U g ⟨i,rfl,V,L,A,n,o,D,W,q⟩;rw[aeJ];by_cases Q:i<l.length
 ·obtain⟨s,v⟩:∃s,l[i]? =some s:=⟨l[i],cx Q⟩;have E:=eN v;obtain⟨G,I⟩:=S s E;have z:=gi mT v;have r:decide ((i:Int)<(l.length:Int))=true:=bm aa;have T:aB .i64 ((i:Int)+1)=((i+1:Nat):Int):=by rw[aI _ aa];rfl
  have O:=eU (f:=bR) (k:=2) (l:=l) (i:=(i:Int)) (ik:=.i64) aa;have a:lM s=false→l.all lM=false:=fun h=>by
   rw[lq];intro B;rw[List.all_eq_true]at B;rw[B s E]at h;cases h
  have e:lM s=true→(l.take (i+1)).all lM=true:=fun h=>by
   rw[CQ v,List.all_append,q];simp[h]
  have x:bg 100 (rv s.1):=(zX (L:=20) G).mono ag;have y:bg 100 (rv s.2):=(zX (L:=20) I).mono ag;obtain⟨lo,hi⟩:=s;simp only at G I x y;unfold lM at a e;simp only at a e;simp only[bR]at z;have d:GT ((g.push (.cells [.str [],.str []] 0)).set g.next (.cells [.str lo,.str hi] 0)):=(D.push aa _).set aa _
  simp only[go_sem,MS,TZ,Ih,A,n,o,r,O,bH,z];refine arW lo hi aa aa g.next _ _ _ _ ?_ ?_ d ?_ ?_
  iterate 2 simp only[go_sem]
  ·intro t J c;rw[t]at a e;refine arX lo hi aa aa x y g.next _ _ _ ?_ ?_ d ?_ ?_
   ·rw[c 6 ag];simp only[go_sem]
   ·simp only[go_sem]
   ·intro u w j;rw[u]at e;have K:rd 15 w=ah (i:Int):=by rw[j 15 ag,c 15 ag];simp only[go_sem,o]
    simp only[go_sem,aeH,K,T];refine⟨l.length-(i+1),aa,i+1,rfl,aa,?_,?_,?_,?_,d,by(simp only[go_sem];omega),e rfl⟩
    ·simp only[go_sem];rw[j 2 ag,c 2 ag];simp only[go_sem,L]
    ·simp only[go_sem];rw[j 13 ag,c 13 ag];simp only[go_sem,A]
    ·simp only[go_sem];rw[j 14 ag,c 14 ag];simp only[go_sem,n]
    ·simp only[go_sem]
   ·intro u w p;rw[u]at a;exact C (a rfl) _ _ p d
  ·intro t J p;rw[t]at a;exact C (a rfl) _ _ p d
 ·have P:i=l.length:=aa;subst P;have r:decide ((l.length:Int)<(l.length:Int))=false:=a_ aa;rw[b8 (aF _)]at q;simp only[go_sem,MS,n,o,r];exact N q _ _ D
def tc(n:Nat)(l:List dR):Bool:=decide (l.length=n)&&l.all lM
theorem arR(n:Nat)(l:List dR)(h:∀s∈l,zZ s)(hl:l.length≤1000):ew 61 [hY l,ah (n:Int)] (.bool (tc n l)):=by
 refine eK (.cons (o8 l) (.cons (.int _ _) .nil)) (aT alN ?_);have g:decide ((l.length:Int)=(n:Int))=decide (l.length=n):=decide_eq_decide.2 aa;unfold hY tc;simp only[go_sem,d61,aeM];rw[g];by_cases c:l.length=n
 ·rw[bm c];simp only[go_sem,aeL,fX];refine arY l h hl _ _ _ l.length ⟨0,rfl,b4 _,?_,?_,?_,?_,ff,?_,rfl⟩ ?_ ?_
  iterate 3 simp only[go_sem]
  ·simp only[go_sem];rfl
  ·exact aF 6
  ·intro a d e b;simp only[go_sem,aeK,a];exact cg b rfl (.bool _)
  ·intro a d e f b;simp only[go_sem,a,f];exact cg b rfl (.bool _)
 ·rw[a_ c];simp only[go_sem,je,Bool.false_and];exact cg ff rfl (.bool _)
theorem arN(p:fc)(h:p.az)(l:List dR)(d:∀s∈l,zZ s)(hl:l.length≤1000):ew 17 [j0 p,hY l] (.bool (tc p.n l)):=by
 have b:=Sj p h;have a:=arR p.n l d hl;have c:c3 (e9 p.n)=some (.val (ah (p.n:Int))):=rfl;refine eK (.cons (tQ p h.n) (.cons (o8 l) .nil)) (aT BN ?_);unfold j0 at b⊢;unfold hY at a⊢;simp only[go_sem,d17,Ym];refine ck b ff ?_;simp only[go_sem,c];refine ck a ff ?_;simp only[go_sem];exact cg ff rfl (.bool _)
def ot(s:dR):Bool:= !(decide (s.1=[])||decide (s.2=[]))
@[go_sem]theorem auV(x:V):sx [.func 103 [] [],x]=some (.fn 103,[x]):=rfl
theorem anJ(s:dR):aS 103 [.agg (bR s)] (.bool (!ot s)):=by
 refine cM (.cons (.agg (o9 s)) .nil) (.bool _) (aT ajQ ?_);unfold ot;by_cases a:s.1=[]
 ·simp only[go_sem,d103,KK,bR,bm a,Bool.true_or]
 ·simp only[go_sem,d103,KK,bR,a_ a,Bool.false_or,Bool.not_not]
def SN(l:List dR)(k:Nat)(F:Fr)(H:af):Prop:=∃i:Nat,k=l.length-i∧i≤l.length∧rd 0 F=bu bR l∧rd 1 F=.func 103 [] []∧rd 7 F=ah (l.length:Int)∧rd 8 F=ah (i:Int)∧(l.take i).all ot=true
theorem ai8(l:List dR)(hl:l.length≤1000)(H:af):c5 159 [bu bR l,.func 103 [] []] H fun v g=>(∃r:Int,v=ah r∧decide (r<0)=l.all ot)∧g=H:=by
 refine pI (R:=fun v=>∃r:Int,v=ah r∧decide (r<0)=l.all ot) (.cons (ie o9 l) (.cons (.func 103 .nil .nil) .nil)) (aT akg ?_) H;simp only[go_sem,d159,XX];refine bK (SN l) l.length ⟨0,rfl,b4 _,?_,?_,?_,?_,rfl⟩ ?_
 iterate 3 simp only[go_sem]
 ·simp only[go_sem];rfl
 rintro m w g ⟨i,rfl,x,h,j,a,b,c⟩;rw[XV];by_cases t:i<l.length
 ·obtain⟨s,f⟩:∃s,l[i]? =some s:=⟨l[i],cx t⟩;have n:=gi mT f;have e:decide ((i:Int)<(l.length:Int))=true:=bm aa;have u:aB .i64 ((i:Int)+1)=((i+1:Nat):Int):=by rw[aI _ aa];rfl
  have p:=eU (f:=bR) (k:=2) (l:=l) (i:=(i:Int)) (ik:=.i64) aa;simp only[go_sem,K5,XU,h,j,a,b,e,p,bH,n];refine use (anJ s) ?_;cases d:ot s with
  |true=>
   simp only[go_sem,XT,fX,b,u];refine⟨l.length-(i+1),aa,i+1,rfl,aa,?_,?_,?_,?_,?_⟩
   iterate 4 simp only[go_sem,h,j,a]
   ·rw[CQ f,List.all_append,c];simp[d]
  |false=>
   simp only[go_sem,je];refine⟨_,.same _,.int _ _,_,rfl,?_⟩;have o:l.all ot=false:=by
    rw[lq];intro k;rw[List.all_eq_true]at k;rw[k s (eN f)]at d;cases d
   rw[o,a_ aa]
 ·have q:i=l.length:=aa;subst q;have e:decide ((l.length:Int)<(l.length:Int))=false:=a_ aa;rw[b8 (aF _)]at c;simp only[go_sem,K5,XW,a,b,e];exact⟨_,.same _,.int _ _,_,rfl,by rw[c];rfl⟩
theorem UJ(l:List dR)(hl:l.length≤1000):aS 102 [bu bR l,.func 103 [] []] (.bool (!l.all ot)):=by
 refine cM (.cons (ie o9 l) (.cons (.func 103 .nil .nil) .nil)) (.bool _) (aT ajP ?_);simp only[go_sem,d102,Vb];refine(ai8 l hl _).mono ?_;rintro _ _ ⟨⟨r,rfl,a⟩,rfl⟩;simp only[go_sem,a]
theorem TI(l:List dR)(hl:l.length≤1000):aS 55 [hY l] (.bool (l.all ot)):=by
 refine cM (.cons (o8 l) .nil) (.bool _) (aT alK ?_);unfold hY;simp only[go_sem,d55,aet];refine use (UJ l hl) ?_;simp only[go_sem,Bool.not_not]
theorem ajg(n i:Nat)(b:Av n i)(e:c.get a=.cells (ct (Z n)) 0)(d:I.get a=.none):bO c I (.slice a 0 n (.known n)) (bI (Z n)):=by
 unfold bI;rw[b.l2];refine .row (m:=n) (cs:=ct (Z n)) ?_ b.hn.1 d (cD.refl _);rw[fI e,dA,iU (by rw[j5,b.l2])]
theorem ajf(n i:Nat)(b:Av n i)(e:c.get a=.cells (ct (U n i)) 0)(d:I.get a=.none):bO c I (.slice a 0 n (.known n)) (bI (U n i)):=by
 unfold bI;rw[b.l1];refine .row (m:=n) (cs:=ct (U n i)) ?_ b.hn.1 d (cD.refl _);rw[fI e,dA,iU (by rw[j5,b.l1])]
theorem RY{b:af}{e n:Nat}{c d:Cap}{t:ax}(g:I.get a=.cells [.bool (decide (t.1.num<0)),mag (aO t.1.num.natAbs),aC,mag (aO (dd t.1)),.slice e 0 n c] 0)(f:b.get a=.none)(h:bO I b (.slice e 0 n c) (bI t.2)):bO I b (.slice a 0 1 d) (bJ [t]):=by
 refine .row (m:=5) (cs:=[.bool (decide (t.1.num<0)),mag (aO t.1.num.natAbs),aC,mag (aO (dd t.1)),.slice e 0 n c]) ?_ ag f (.cons (.same _) (.cons (.same _) (.cons (.same _) (.cons (.same _) (.cons h .nil)))));rw[fI g];rfl
theorem arT(n i:Nat)(e:n=1∨n=2)(hi:i<n):aS 51 [ah (n:Int),ah (i:Int)] (gD n [(1,U n i)]):=by
 have a:=ym n i e hi;have h:=a.hn;have c:=a.FZ;have f:=a.st;have d:l7 8 [ah 0] [ah (n:Int),ah (n:Int)]=some (.new (ct (Z n)) (.slice n n)):=by rw[iI aa,←c];simp
 have g:eo none 1 [.slice 6 0 n (.known n),ah (i:Int)]=some (.val (.ptr 6 i)):=by rw[bW aa];simp
 have b:=zO 1 ag;rw[show((1:Int):Rat)=1 from rfl]at b;unfold bz bk at b;refine fK (.cons (.int _ _) (.cons (.int _ _) .nil)) (aT alH ?_);simp only[go_sem,d51,aek,aej,aei,d,g,f];refine use b ?_;simp only[go_sem];refine⟨_,.agg (.cons (.same _) (.cons (RY (t:=(1,U n i)) (e:=6) (n:=n) (c:=.known n) ?_ kR (ajf n i a ?_ kR)) .nil)),tS n _,rfl⟩
 iterate 2 simp only[go_sem]
theorem y5(n i:Nat)(a:Av n i)(c d:Rat):kB n [(c,U n i)]∧kB n [(d,Z n)]:=⟨fun t b=>by rw[ec.1 b];exact⟨a.l1,cH a.s1 ag⟩,fun t b=>by rw[ec.1 b];exact⟨a.l2,cH a.s2 ag⟩⟩
theorem Kz(n i:Nat)(p:n=1∨n=2)(hi:i<n)(q:Rat)(r:bg 100 q):aS 64 [ah (n:Int),bz q] (gD n (j8 [(q,Z n)])):=by
 have d:=ym n i p hi;have w:=d.hn;have m:=d.FZ;have o:l7 8 [ah 0] [ah (n:Int),ah (n:Int)]=some (.new (ct (Z n)) (.slice n n)):=by rw[iI aa,←m];simp
 have u:=HR [(q,Z n)] n 100 n aa (y5 n i d 0 q).2 (fun t v=>by rw[ec.1 v];exact r) aE aE;refine fK (.cons (.int _ _) (.cons (fT _) .nil)) (aT alP ?_);unfold bz bk;simp only[go_sem,d64,aeT,o];obtain⟨a,c⟩:∃a,a=((((af.zero 5).push (.cells [.bool (decide (q.num<0)),mag (aO q.num.natAbs),aC,mag (aO (dd q))] 0)).push (.cells [ah 0,.ak] 0)).push (.cells (ct (Z n)) 0)).push (.cells [.bool (decide (q.num<0)),mag (aO q.num.natAbs),aC,mag (aO (dd q)),.slice 7 0 n (.known n)] 0):=⟨_,rfl⟩;have l:a.get 6=.cells [ah 0,.ak] 0:=by rw[c];simp only[go_sem]
 have bh:a.get 7=.cells (ct (Z n)) 0:=by rw[c];simp only[go_sem]
 have eY:a.get 8=.cells [.bool (decide (q.num<0)),mag (aO q.num.natAbs),aC,mag (aO (dd q)),.slice 7 0 n (.known n)] 0:=by rw[c];simp only[go_sem]
 rw[←c];clear c;have h:tI a [ah (n:Int),.slice 8 0 1 (.known 1)] 8:=.arg (List.mem_cons_of_mem _ (ec.2 rfl));have s:tI a [ah (n:Int),.slice 8 0 1 (.known 1)] 7:=.cell h eY (o:=0) (n:=n) (c:=.known n) aE;have j:((a.set 8 .none).set 7 .none).get 7=.none:=by simp only[go_sem]
 have k:((a.set 8 .none).set 7 .none).get 8=.none:=by simp only[go_sem]
 refine(T4 (H:=a) [8,7] ((a.set 8 .none).set 7 .none) (fun b g=>?_) (fun y=>?_) rfl (.cons (.same _) (.cons (RY (t:=(q,Z n)) eY k (ajg n i d bh j)) .nil)) (u _)).mono ?_
 ·simp only[jr,q3,or_false]at g;rcases g with rfl|rfl
  ·exact⟨⟨_,eY⟩,h⟩
  ·exact⟨⟨_,bh⟩,s⟩
 ·rw[af.aK,af.aK];by_cases e:7=y
  ·subst e;rfl
  ·by_cases f:8=y
   ·subst f;rfl
   ·rw[aj e,aj f,aj (by simp only[jr,q3,or_false];omega)]
 rintro _ _ ⟨rfl,rfl⟩;simp only[go_sem,gD,gf,l];exact⟨_,.same _,tS n _,rfl⟩
theorem NB{sz bytes n:Nat}{cs:List V}(h:c.get a=.cells [] 0)(g:kn r=some n)(k:dX c sz n r=some cs)(s:0<n)(j:cs.length=n*sz)(t:0<sz)(l:n≤1073741824∧bytes≤1024)
 (o:∀d b,aH b sz d cs (c.next+1)→(∀y,y<c.next→b.get y=c.get y)→b.next=c.next+2→e (put m i d) b):gk i e m (fA sz bytes [.slice a 0 0 (.known 0),r] c):=by
 have f:fA sz bytes [.slice a 0 0 (.known 0),r] c=kJ c sz n cs:=by
  show an (kn r) (fun n=>an (dX c sz n r) fun p=>jJ sz bytes (.slice a 0 0 (.known 0)) n p c)=_;rw[g];show an (dX c sz n r) _=_;rw[k];show Bool.casesOn (motive:=fun _=>Option (V×af)) (fh n) (aQ (i_ (0+n) bytes) (Bool.casesOn (motive:=fun _=>Option (V×af)) (bL (0+n) 0) (an (c.cP a 0 (0*sz)) fun q=>kJ c sz (0+n) (cX q cs)) (an (c.e3 a (0+0*sz) cs) fun c=>some (V.slice a 0 (0+n) (.known 0),c)))) _=_;rw[qy aa,pe ⟨aa,cH (jX (aa:0+n≤1073741824) l.2) ag⟩,show bL (0+n) 0=false from by
   cases n with
   |zero=>omega
   |succ n=>rw[eJ];rfl,fI h]
  simp only[jg,dA,zl,xK,zC,BS,eJ]
 rw[f];refine o _ _ (.cells (f:=c.next) ?_ ?_ (aF _) aa j ?_ ?_) (fun y u=>?_) rfl
 ·rw[af.aY,aj (by show¬(c.next+1=c.next);omega),af.aY,ao rfl]
 ·rw[af.aY,ao (show(c.push (.cells cs (Nat.succ c.next))).next=c.next+1 from rfl)]
 ·show c.next+1<c.next+1+1;omega
 ·show c.next<c.next+1+1;omega
 ·rw[af.aY,aj (by show¬(c.next+1=y);omega),af.aY,aj aa]
theorem aoi(n:Nat)(m:List V)(c:Rat)(d:ax)(hc:bg h c)(hu:bg u d.1)(hk:h+u≤30000000)(a6:m.length≤1000)(v:V)(F:Fr)(H:af)(R:X→Fr→af→Prop)
 (hv:(∃g,aH H 5 v m g)∨(m=[]∧v=.slice 9 0 0 (.known 0)∧H.get 9=.cells [] 0))
 (Y:rd 4 F=.ptr 6 0) (x:rd 5 F=.ptr 7 0) (Z:rd 7 F=v) (z:rd 8 F=ah 0) (G:H.get 6=.cells (bk c) 0) (bh:H.get 7=.cells [ah (n:Int),bJ [d]] 0) (a5:10≤H.next)
 (J:∀s o O g',(∀t,t<7→rd t s=rd t F)→rd 7 s=O→aH o 5 O (m++iB (c*d.1,d.2)) g'→(∀y w,y<10→H.get y=.cells w 0→o.get y=.cells w 0)→(∀y,y<5→H.get y=.none→o.get y=.none)→R (.exit 0) s o):
 bw (.loop (pc 62 2)) R F H:=by
 have B:=Q6 c d.1 hc hu hk;have hl:c3 (bJ [d])=some (.val (ah 1)):=rfl;have P:decide ((0:Int)<1)=true:=rfl;have d11:decide ((1:Int)<1)=false:=rfl;have a2:aB .i64 ((0:Int)+1)=1:=rfl;have ar:eo none 5 [bJ [d],ah 0]=some (.val (.dh (di [d]) 0)):=pq aE;have t1:cj (di [d]) 4=some [.bool (decide (d.1.num<0)),mag (aO d.1.num.natAbs),aC,mag (aO (dd d.1))]:=rfl;have N:cO (di [d]) 4=some (bI d.2):=rfl;obtain⟨p,hp⟩:∃p,p=c*d.1:=⟨_,rfl⟩;rw[←hp]at B J;refine qV 2 ?_;rw[kE];obtain⟨K,I⟩:∃K,K=qd eO 5 (pc 62 2) R 1:=⟨_,rfl⟩;rw[←I];unfold bz bk at B;unfold bk at G;simp only[go_sem,MT,aeO,Y,x,Z,z,G,bh,hl,P,ar,t1,N];refine use B ?_;have Q:aZ (bI d.2)=true:=rfl;have S:cellsOf (bI d.2)=[bI d.2]:=rfl;have a3:V.one (bI d.2)=true:=rfl;simp only[go_sem,bh,N,Q,S,true_and];have a0:cK [V.bool (decide (p.num<0)),mag (aO p.num.natAbs),aC,mag (aO (dd p)),bI d.2]=true:=rfl;have E:∀(i:Fr) (j:V) (f:af) (k:Nat),(∀t,t<7→rd t i=rd t F)→rd 8 i=ah 0→rd 5 i=.ptr 7 0→rd 7 i=j→aH f 5 j (m++iB (p,d.2)) k→(∀y,y<H.next→(∀a b,H.get y≠ .bD a b)→f.get y=H.get y)→bw (pc 62 0) (fD K R) i f:=by
  intro i j f k ac W T U q A;have fU:f.get 7=.cells [ah (n:Int),bJ [d]] 0:=by rw[A 7 aa (by intro a b e;rw[bh]at e;cases e),bh]
  simp only[go_sem,aeN,W,a2];rw[I,kE];simp only[go_sem,MT,T,fU,hl,d11];refine J _ _ j k (fun t C=>?_) ?_ q (fun y w r e=>?_) (fun y r e=>?_)
  ·simp(disch:=omega)only[bU];exact ac t C
  ·simp only[go_sem,U]
  ·rw[A y aa (by intro a b l;rw[e]at l;cases l),e]
  ·rw[A y aa (by intro a b l;rw[e]at l;cases l),e]
 have a4:∀(i:Fr) (f:af),bw (pc 62 0) (fD K R) i f→iY 1 (fD (bw (pc 62 0) (fD K R)) (fD K R)) X.norm i f:=fun _ _ e=>e
 rcases hv with⟨g,q⟩|⟨rfl,rfl,cW⟩
 ·refine gA (bytes:=88) q rfl ag a0 ⟨aa,ag⟩ fun j f k D L M a7=>?_
  simp only[go_sem];refine E _ j f k (fun t C=>?_) ?_ ?_ ?_ D (fun y r e=>M y r (q.tO e))
  ·simp(disch:=omega)only[bU]
  iterate 3 simp only[go_sem,z,x]
 ·have aw:¬H.next=9:=aa
  refine NB (bytes:=88) (sz:=5) (n:=1) (cs:=[V.bool (decide (p.num<0)),mag (aO p.num.natAbs),aC,mag (aO (dd p)),bI d.2]) (by rw[af.aY,aj aw,cW]) rfl ?_ ag rfl ag ⟨ag,ag⟩ fun j f D L M=>?_
  ·show af.cP (H.push (.cells [V.bool (decide (p.num<0)),mag (aO p.num.natAbs),aC,mag (aO (dd p)),bI d.2] 0)) H.next 0 (1*5)=_
   rw[fI (cs:=[V.bool (decide (p.num<0)),mag (aO p.num.natAbs),aC,mag (aO (dd p)),bI d.2]) (by rw[af.aY,ao rfl])];rfl
  simp only[go_sem];refine E _ j f _ (fun t C=>?_) ?_ ?_ ?_ D (fun y r e=>by rw[L y (by simp only[go_sem];omega),af.aY,aj aa])
  ·simp(disch:=omega)only[bU]
  iterate 3 simp only[go_sem,z,x]
theorem Qh(n:Nat)(hn:n=1∨n=2)(a:List ax)(Z:a.length≤1)(N:kB n a)(a2:∀t∈a,bg 200 t.1)(c:Rat)(A:bg 100 c)(u:ax)(D:bg 100 u.1)(O:kB n [u]):aS 62 [gD n a,bz c,gD n [u]] (gD n (j8 (a++[(c*u.1,u.2)]))):=by
 have ae:=HR (a++[(c*u.1,u.2)]) n 200 n aa (fun t ht=>by
  rcases hN.1 ht with ht|ht
  ·exact N t ht
  ·rw[ec.1 ht];exact O u aE) (fun t ht=>by
  rcases hN.1 ht with ht|ht
  ·exact a2 t ht
  ·rw[ec.1 ht];exact A.mul D) (by rw[aV,gP];omega) (by rw[aV,gP];omega)
 refine fK (.cons (tS _ _) (.cons (fT _) (.cons (tS _ _) .nil))) (D5 hT b5 gb O3.1 O3.2 (by kernel_rfl) 3 42 rfl rfl ?_);unfold gD gf bz;have k1:∀q,aZ (.agg (bk q))=true:=fun _=>rfl
 simp only[go_sem,d62,aeR,aeQ,aP.cutAt];obtain⟨b,d⟩:∃b,b=(((((af.zero 5).push (.cells [ah (n:Int),bJ a] 0)).push (.cells (bk c) 0)).push (.cells [ah (n:Int),bJ [u]] 0)).push (.cells [ah 0,.ak] 0)).push (.cells [] 0):=⟨_,rfl⟩;have Y:b.get 5=.cells [ah (n:Int),bJ a] 0:=by rw[d];simp only[go_sem]
 have s:b.get 6=.cells (bk c) 0:=by rw[d];simp only[go_sem]
 have bh:b.get 7=.cells [ah (n:Int),bJ [u]] 0:=by rw[d];simp only[go_sem]
 have eY:b.get 8=.cells [ah 0,.ak] 0:=by rw[d];simp only[go_sem]
 have cW:b.get 9=.cells [] 0:=by rw[d];simp only[go_sem]
 have ab:∀y,y<5→b.get y=.none:=fun y E=>by
  rw[d];rw[af.aY,aj (by simp only[go_sem];omega),af.aY,aj (by simp only[go_sem];omega),af.aY,aj (by simp only[go_sem];omega),af.aY,aj (by simp only[go_sem];omega),af.aY,aj (by simp only[go_sem];omega),af.e7]
 have a7:b.next=10:=by rw[d];simp only[go_sem]
 rw[←d];clear d;obtain⟨Q,z⟩:∃Q:X→Fr→af→Prop,Q=(fu [gH.cell 6 true 2] fun v1 p=>∃v,bO p (af.zero p.next) v1 v∧bA v∧v=V.agg [ah (n:Int),bJ (j8 (a++[(c*u.1,u.2)]))]):=⟨_,rfl⟩
 rw[←z]
 have J:∀(f:Fr) (k:af) (v:V),rd 3 f=.ptr 5 0→rd 4 f=.ptr 6 0→rd 5 f=.ptr 7 0→rd 6 f=.ptr 8 0→rd 7 f=v→rd 8 f=ah 0→(∀y,y<10→k.get y=b.get y)→10≤k.next→((∃g,aH k 5 v (di a) g)∨(di a=[]∧v=.slice 9 0 0 (.known 0)∧k.get 9=.cells [] 0))→
  bw (.loop (pc 62 2)) (iY 0 (fD (bw (aP.cut 5 42 (pc 62 3)) Q) Q)) f k:=by
  intro f k v P R S T U W j ad hv;refine aoi n (di a) c u A D ag (by rw[pS];omega) v _ _ _ hv R S U W (by rw[j 6 ag,s]) (by rw[j 7 ag,bh]) ad ?_;intro i m v3 g3 x M B o ac;have K:rd 3 i=.ptr 5 0:=by rw[x 3 ag];exact P
  have L:rd 6 i=.ptr 8 0:=by rw[x 6 ag];exact T
  have F:=o 5 _ ag (by rw[j 5 ag,Y]);have aw:=o 6 _ ag (by rw[j 6 ag,s]);have fU:=o 7 _ ag (by rw[j 7 ag,bh]);have mK:=o 8 _ ag (by rw[j 8 ag,eY]);have C:∀y r g,y<9→m.get y=.cells r g→g=0:=fun y r g E e=>by
   by_cases w:y<5
   ·rw[ac y w (by rw[j y aa,ab y w])]at e;cases e
   ·rcases(aa:y=5∨y=6∨y=7∨y=8)with rfl|rfl|rfl|rfl
    ·rw[F]at e;cases e;rfl
    ·rw[aw]at e;cases e;rfl
    ·rw[fU]at e;cases e;rfl
    ·rw[mK]at e;cases e;rfl
  have al:di a++iB (c*u.1,u.2)=di (a++[(c*u.1,u.2)]):=by rw[we];simp[di]
  rw[al]at B;rw[fF];simp only[go_sem];refine Ii (m.low 9) (fun t=>if t=7 then bJ (a++[(c*u.1,u.2)])else if t=3∨t=6 then rd t i else .any) (Ec ag C) (fun t ht=>?_) ?_
  ·show bO _ _ _ (if t=7 then _ else _);by_cases h:t=7
   ·subst h;rw[ao rfl,M];exact B.FT ag C (pS _)
   ·rw[aj h];split
    ·exact .same _
    ·exact .any _
  have G:rd 3 (k9 (fun t=>if t=7 then bJ (a++[(c*u.1,u.2)])else if t=3∨t=6 then rd t i else .any) 42)=.ptr 5 0:=by rw[qI _ ag];exact K
  have H:rd 6 (k9 (fun t=>if t=7 then bJ (a++[(c*u.1,u.2)])else if t=3∨t=6 then rd t i else .any) 42)=.ptr 8 0:=by rw[qI _ ag];exact L
  have I:rd 7 (k9 (fun t=>if t=7 then bJ (a++[(c*u.1,u.2)])else if t=3∨t=6 then rd t i else .any) 42)=bJ (a++[(c*u.1,u.2)]):=by rw[qI _ ag];rfl
  generalize k9 (fun t=>if t=7 then bJ (a++[(c*u.1,u.2)])else if t=3∨t=6 then rd t i else .any) 42=a4 at G H I
  have ap:(m.low 9).get 5=.cells [ah (n:Int),bJ a] 0:=by rw[af.qt,ao ag];exact F
  have ar:(m.low 9).get 8=.cells [ah 0,.ak] 0:=by rw[af.qt,ao ag];exact mK
  simp only[go_sem,aeP,G,I,ap];refine use ae ?_;simp only[go_sem,gD,gf,z,H,ar];exact⟨_,.same _,tS n _,rfl⟩
 cases a with
 |nil=>
  have e:fA 5 88 [V.slice 9 0 0 (Cap.known 0),bJ []] b=some (.slice 9 0 0 (.known 0),b):=rfl;rw[e];simp only[go_sem];refine J _ _ _ ?_ ?_ ?_ ?_ ?_ ?_ (fun _ _=>rfl) aa (.inr ⟨rfl,rfl,cW⟩)
  all_goals simp only[go_sem]
 |cons t l=>
  have hl:l=[]:=oP (by rw[cV]at Z;omega);subst hl;refine xg (n:=1) (cs:=di [t]) cW ag rfl ag ⟨ag,ag⟩ fun v2 H4 q1 a1 a9=>?_
  simp only[go_sem];refine J _ _ _ ?_ ?_ ?_ ?_ ?_ ?_ (fun y E=>a1 y aa) aa (.inl ⟨_,q1⟩)
  all_goals simp only[go_sem]
theorem Ow(t:ax):bD [t]=ig t:=by
 rw[vv];show(if t.1.num≠0 then(t.1,t.2)::bD []else bD [])=_;rw[xu];unfold ig;by_cases h:t.1.num=0
 ·rw[aj (fun a=>a h),ao h]
 ·rw[ao h,aj h]
theorem zL(t:ax):j8 [t]=ig t:=by
 unfold j8;rw[x9 aE,Ow]
theorem Ox(s t:ax)(h:ord s.2 t.2=1)(a:s.1.num≠0):bD [s,t]=s::ig t:=by
 have b:gJ s.1 s.2 [t]=(s.1,[t]):=by
  show(if ord s.2 t.2=0 then gJ (s.1+t.1) s.2 []else(s.1,[t]))=_;rw[aj (by rw[h];decide)]
 rw[vv,b,ao a,Ow]
theorem RK(s t:ax):iL [s,t]=if iq s t=true then [s,t]else [t,s]:=by
 rw[CI aE];rw[(aE:[s,t].length/2=1)];show r8 (iL [s]) (iL [t]) iq=_;rw[x9 aE,x9 aE];by_cases h:iq s t=true
 ·rw[ao h];simp[h]
 ·rw[aj h];simp[h]
theorem aoC(s t:ax)(h:ord s.2 t.2=1)(a:s.1.num≠0):j8 [s,t]=s::ig t:=by
 unfold j8;rw[RK,ao (by unfold iq;rw[h];rfl),Ox s t h a]
theorem aoD(s t:ax)(h:ord s.2 t.2=1)(a:s.1.num≠0):j8 [t,s]=s::ig t:=by
 unfold j8;rw[RK,aj (by unfold iq;rw[GM s.2 t.2,h];decide),Ox s t h a]
theorem aoz(n i:Nat)(a:n=1∨n=2)(hi:i<n)(x:Rat):j8 ([(1,U n i)]++[(x*1,Z n)])=jP n i 1 x:=by
 rw[Rat.mul_one];exact aoC (1,U n i) (x,Z n) (GL n i a hi) (by show(1:Rat).num≠0;decide)
theorem aox(n i:Nat)(b:n=1∨n=2)(hi:i<n)(x:Rat):j8 (j8 [(x,Z n)]++[(-1*1,U n i)])=jP n i (-1) x:=by
 rw[zL,Rat.mul_one];have a:(-1:Rat).num≠0:=ag;unfold jP;by_cases h:x.num=0
 ·have e:ig (x,Z n)=[]:=ao h;rw[e];show j8 [(-1,U n i)]=_;rw[zL];exact aj a
 ·have e:ig (x,Z n)=[(x,Z n)]:=aj h;have:=aoD (-1,U n i) (x,Z n) (GL n i b hi) a;rw[e]at this⊢;exact this
def jE(e:Nat)(H:af)(b:Nat)(v:V)(a:List V):Prop:=(∃g,aH H b v a g)∨(a=[]∧v=.slice e 0 0 (.known 0)∧H.get e=.cells [] 0)
theorem jE.aZ{v:V}(d:jE a c h v b):aZ v=true∧cellsOf v=[v]∧V.one v=true:=by
 rcases d with⟨g,d⟩|⟨_,rfl,_⟩
 ·exact d.aZ
 ·exact⟨rfl,rfl,rfl⟩
theorem jE.low{v:V}(d:jE a c h v b)(k:a<c.next)(e:∀y,y<c.next→I.get y=c.get y)(l:c.next≤I.next):jE a I h v b:=by
 rcases d with⟨g,d⟩|⟨f,i,j⟩
 ·exact .inl ⟨g,d.low e l⟩
 ·exact .inr ⟨f,i,by rw[e a k,j]⟩
theorem jE.set{v:V}{cs:List V}{y:Nat}(d:jE a c h v b)(j:c.get y=.cells cs 0)(k:y≠a)(o:cR):jE a (c.set y o) h v b:=by
 rcases d with⟨g,d⟩|⟨e,f,i⟩
 ·exact .inl ⟨g,d.set j o⟩
 ·exact .inr ⟨e,f,by rw[af.aK,aj k,i]⟩
theorem Nu{bytes:Nat}{v:V}{d:List V}(j:jE h c u v b)(F:h<c.next)(hl:d.length=u)(r:0<u)(D:cK d=true)(p:b.length+u≤1073741824∧bytes≤1024)
 (q:∀w f z,aH f u w (b++d) z→(∀y,y<c.next→(∀a x,c.get y≠ .bD a x)→f.get y=c.get y)→c.next<f.next→e (put m i w) f):gk i e m (fA u bytes [v,.slice c.next 0 1 (.known 1)] (c.push (.cells d 0))):=by
 rcases j with⟨g,j⟩|⟨rfl,rfl,B⟩
 ·exact gA j hl r D p fun o k A l t n E=>q o k A l (fun y s C=>n y s (j.tO C)) E
 ·refine NB (n:=1) (cs:=d) (by rw[af.aY,aj aa,B]) rfl ?_ ag (by rw[hl,iP]) r ⟨ag,p.2⟩ fun o k l t n=>?_
  ·show af.cP (c.push (.cells d 0)) c.next 0 (1*u)=_
   rw[fI (cs:=d) (by rw[af.aY,ao rfl]),dA,iP,iU hl]
  ·refine q o k _ l (fun y s _=>by rw[t y (by simp only[go_sem];omega),af.aY,aj aa]) (by rw[n];simp only[go_sem];omega)
def Q_:aP:=(.bP [ex 18 (mv (rd 16)),ex 19 (b6 none 10 (rd 14) (rd 16)),ex 20 (bq true 10 (rd 19)),ex 7 (alloc [aC,.ak,aC,.ak,aC,.ak,aC,.ak,aC,aC]),ex 6 (bN (rd 18)),bF (st 10 (rd 7) (rd 20))])
def Ra:aP:=(.bP [ex 21 (fa 0 (rd 2)),ex 22 (bq false 1 (rd 21)),ex 23 (mv (rd 6)),ex 24 (bY 51 [(rd 22),(rd 23)]),ex 8 (alloc [(ah 0),.ak]),bF (st 2 (rd 8) (rd 24))])
def Cv:aP:=(.seq (.bP [ex 25 (fa 8 (rd 7)),ex 26 (bq false 1 (rd 25))]) (.cond (rd 26) (.bP [ex 27 (fa 3 (rd 2)),ex 28 (bq false 1 (rd 27)),ex 29 (bq true 2 (rd 8)),ex 30 (fa 0 (rd 7)),ex 31 (bq true 4 (rd 30)),ex 33 (fa 0 (rd 2)),ex 34 (bq false 1 (rd 33)),ex 32 (bY 63 [(rd 31)]),re 28 (bq false 1 (rd 27)),re 29 (bq true 2 (rd 8)),re 34 (bq false 1 (rd 33)),ex 35 (bY 65 [(kc (ah 1))]),re 28 (bq false 1 (rd 27)),re 29 (bq true 2 (rd 8)),re 34 (bq false 1 (rd 33)),ex 36 (bY 64 [(rd 34),(rd 35)]),re 28 (bq false 1 (rd 27)),re 29 (bq true 2 (rd 8)),ex 37 (bY 62 [(rd 29),(rd 32),(rd 36)]),re 28 (bq false 1 (rd 27)),ex 38 (cQ 1 [(0,2)] [(ah 0),.ak] [(rd 37)]),ex 39 (ap 2 32 (rd 28) (rd 38)),ex 40 (fa 3 (rd 2)),bF (st 1 (rd 40) (rd 39))]) .skip))
def Ht:aP:=(.bP [ex 41 (fa 9 (rd 7)),ex 42 (bq false 1 (rd 41))])
def Hu:aP:=(.cond (rd 42) (.bP [ex 43 (fa 3 (rd 2)),ex 44 (bq false 1 (rd 43)),ex 45 (fa 0 (rd 2)),ex 46 (bq false 1 (rd 45)),ex 47 (fa 4 (rd 7)),ex 48 (bq true 4 (rd 47)),ex 51 (bq true 2 (rd 8)),ex 49 (bY 64 [(rd 46),(rd 48)]),re 44 (bq false 1 (rd 43)),re 51 (bq true 2 (rd 8)),ex 50 (bY 65 [(kc (ah (-1)))]),re 44 (bq false 1 (rd 43)),re 51 (bq true 2 (rd 8)),ex 52 (bY 62 [(rd 49),(rd 50),(rd 51)]),re 44 (bq false 1 (rd 43)),ex 53 (cQ 1 [(0,2)] [(ah 0),.ak] [(rd 52)]),ex 54 (ap 2 32 (rd 44) (rd 53)),ex 55 (fa 3 (rd 2)),bF (st 1 (rd 55) (rd 54))]) .skip)
def Cw:aP:=.seq Ht Hu
theorem TW:(pc 18 1)=(.seq (.block 1 (.seq Q_ (.seq Ra (.seq Cv Cw)))) (pc 18 0)):=Y4
def uu(n i:Nat)(s:b9):List (List ax):=if s.hl then [jP n i 1 (-s.lo)]else []
def vR(n i:Nat)(s:b9):List (List ax):=if s.hh then [jP n i (-1) s.hi]else []
theorem Ch:bg 100 1:=GZ.mono ag
theorem aoN:bg 100 (-1):=GY.mono ag
theorem apM(n:Nat)(r:n=1∨n=2)(i:Nat)(hi:i<n)(s:b9)(hs:iE 90 s)(u:List ax)(d:V)(x y e:Nat)(v:V)(m:List V)(F:Fr)(H:af)(R:X→Fr→af→Prop)(K:Fr→af→Prop)
 (J:rd 2 F=.ptr 5 0) (L:rd 7 F=.ptr x 0) (o:rd 8 F=.ptr y 0) (f:H.get 5=.cells [ah (n:Int),ah (n:Int),bJ u,v,d] 0) (A:H.get x=.cells (eB s) 0) (k:H.get y=.cells (gf n [(1,U n i)]) 0) (C:jE e H 2 v m) (he:e<H.next) (a3:5≠e) (ba:m.length≤1000) (a6:8≤H.next) (a':x<H.next) (bb:y<H.next)
 (a5:aZ d=true∧cellsOf d=[d]∧V.one d=true)
 (N:∀I g v',(∀t,t<18→rd t I=rd t F)→jE e g 2 v' (m++fq n (uu n i s))→g.get 5=.cells [ah (n:Int),ah (n:Int),bJ u,v',d] 0→(∀z w,z<H.next→z≠5→H.get z=.cells w 0→g.get z=.cells w 0)→(∀z,z<5→H.get z=.none→g.get z=.none)→H.next≤g.next→K I g):
 bw Cv (fD K R) F H:=by
 obtain⟨lo,a4,hl,hh⟩:=s;obtain⟨T,ar⟩:=hs;simp only at T ar;simp only[eB,bk,eL,eE]at A;simp only[gf]at k;cases hl with
 |false=>
  simp only[go_sem,Cv,L,A];refine N _ _ v (fun t D=>?_) ?_ f (fun _ _ _ _ h=>h) (fun _ _ h=>h) (aF _)
  ·simp(disch:=omega)only[bU]
  ·show jE e H 2 v (m++[]);rw[fN];exact C
 |true=>
  have Y:=ym n i r hi;have B:=Q7 lo;have c:=zO 1 ag;rw[show((1:Int):Rat)=1 from rfl]at c;have q:=Kz n i r hi 1 Ch;rw[zL,show ig (1,Z n)=[(1,Z n)]from aj (by show¬(1:Rat).num=0;decide)]at q;have j:=Qh n r [(1,U n i)] aE (y5 n i Y 1 1).1 (fun t D=>by rw[ec.1 D];exact Ch.mono ag) (-lo) ((Ci T).mono ag) (1,Z n) Ch (y5 n i Y 1 1).2;rw[aoz n i r hi]at j;obtain⟨p,O⟩:∃p,p=jP n i 1 (-lo):=⟨_,rfl⟩;rw[←O]at j;obtain⟨S,ae⟩:∃S,S= -lo:=⟨_,rfl⟩;rw[←ae]at B j;have ap:cK [V.int .i64 (n:Int),bJ p]=true:=rfl;have kk:∀l:List ax,aZ (bJ l)=true∧cellsOf (bJ l)=[bJ l]∧V.one (bJ l)=true:=fun _=>⟨rfl,rfl,rfl⟩
  obtain⟨a7,a8,a9⟩:=C.aZ;unfold bz bk at B c q j;simp only[gD,gf]at q j;simp only[go_sem,Cv,J,L,o,f,A,k];refine use B ?_;simp only[go_sem,o,f,k,true_and];refine use c ?_;simp only[go_sem,o,f,k,true_and];refine use q ?_;simp only[go_sem,o,f,k,true_and];refine use j ?_;simp only[go_sem,f,true_and];refine Nu (bytes:=32) C he rfl ag ap ⟨aa,ag⟩ fun G H4 M W E bd=>?_
  have Q:H4.get 5=.cells [ah (n:Int),ah (n:Int),bJ u,v,d] 0:=by rw[E 5 aa (by intro a b h;rw[f]at h;cases h),f]
  obtain⟨w1,w2,w3⟩:=W.aZ;simp only[go_sem,J,Q,w1,w2,w3];refine N _ _ G (fun t D=>?_) ?_ ?_ (fun z w P am h=>?_) (fun z P h=>?_) ?_
  ·simp(disch:=omega)only[bU]
  ·refine .inl ⟨M,?_⟩;have aw:=W.set Q (.cells [ah (n:Int),ah (n:Int),bJ u,G,d] 0);rw[uu,ao rfl];show aH _ 2 G (m++fq n [jP n i 1 (-lo)]) M;rw[←O];simpa [fq,pH]using aw
  ·simp only[go_sem]
  ·rw[af.aK,aj (fun e=>am e.symm),E z P (by intro a b c;rw[h]at c;cases c),h]
  ·rw[af.aK,aj aa,E z aa (by intro a b c;rw[h]at c;cases c),h]
  ·simp only[go_sem];omega
theorem apN(n:Nat)(u:n=1∨n=2)(i:Nat)(hi:i<n)(s:b9)(hs:iE 90 s)(w:List ax)(f:V)(x y e:Nat)(v:V)(o:List V)(F:Fr)(H:af)(R:X→Fr→af→Prop)
 (K:rd 2 F=.ptr 5 0) (L:rd 7 F=.ptr x 0) (B:rd 8 F=.ptr y 0) (j:H.get 5=.cells [ah (n:Int),ah (n:Int),bJ w,v,f] 0) (C:H.get x=.cells (eB s) 0) (q:H.get y=.cells (gf n [(1,U n i)]) 0) (D:jE e H 2 v o) (he:e<H.next) (a3:5≠e) (a':o.length≤1000) (a5:8≤H.next) (a9:x<H.next) (ba:y<H.next)
 (a4:aZ f=true∧cellsOf f=[f]∧V.one f=true)
 (N:∀J k v',(∀t,t<18→rd t J=rd t F)→jE e k 2 v' (o++fq n (vR n i s))→k.get 5=.cells [ah (n:Int),ah (n:Int),bJ w,v',f] 0→(∀z A,z<H.next→z≠5→H.get z=.cells A 0→k.get z=.cells A 0)→(∀z,z<5→H.get z=.none→k.get z=.none)→H.next≤k.next→R .norm J k):
 bw Cw R F H:=by
 obtain⟨lo,g,hl,hh⟩:=s;obtain⟨q1,E⟩:=hs;simp only at q1 E;simp only[eB,bk,eL,eE]at C;simp only[gf]at q;cases hh with
 |false=>
  simp only[go_sem,Cw,Ht,Hu,L,C];refine N _ _ v (fun t c=>?_) ?_ j (fun _ _ _ _ h=>h) (fun _ _ h=>h) (aF _)
  ·simp(disch:=omega)only[bU]
  ·show jE e H 2 v (o++[]);rw[fN];exact D
 |true=>
  have Y:=ym n i u hi;have d:=zO (-1) ag;rw[show(((-1:Int)):Rat)= -1 from rfl]at d;have r:=Kz n i u hi g (E.mono ag);have P:∀t∈j8 [(g,Z n)],t=(g,Z n):=fun t c=>by
   rw[zL]at c;unfold ig at c;split at c
   ·cases c
   ·exact ec.1 c
  have m:=Qh n u (j8 [(g,Z n)]) (by rw[zL];exact PZ _) (fun t c=>by rw[P t c];exact(y5 n i Y 1 g).2 _ aE) (fun t c=>by rw[P t c];exact E.mono ag) (-1) aoN (1,U n i) Ch (y5 n i Y 1 1).1;rw[aox n i u hi]at m;obtain⟨p,O⟩:∃p,p=jP n i (-1) g:=⟨_,rfl⟩;rw[←O]at m;obtain⟨T,ae⟩:∃T,T=j8 [(g,Z n)]:=⟨_,rfl⟩;rw[←ae]at r m;have ap:cK [V.int .i64 (n:Int),bJ p]=true:=rfl;have kk:∀l:List ax,aZ (bJ l)=true∧cellsOf (bJ l)=[bJ l]∧V.one (bJ l)=true:=fun _=>⟨rfl,rfl,rfl⟩
  obtain⟨a6,a7,a8⟩:=D.aZ;unfold bz bk at d r m;simp only[gD,gf]at r m;simp only[go_sem,Cw,Ht,Hu,K,L,B,j,C,q];refine use r ?_;simp only[go_sem,B,j,q,true_and];refine use d ?_;simp only[go_sem,B,j,q,true_and];refine use m ?_;simp only[go_sem,j,true_and];refine Nu (bytes:=32) D he rfl ag ap ⟨aa,ag⟩ fun I H4 M W G bc=>?_
  have S:H4.get 5=.cells [ah (n:Int),ah (n:Int),bJ w,v,f] 0:=by rw[G 5 aa (by intro a b h;rw[j]at h;cases h),j]
  obtain⟨w1,w2,w3⟩:=W.aZ;simp only[go_sem,K,S,w1,w2,w3];refine N _ _ I (fun t c=>?_) ?_ ?_ (fun z A Q am h=>?_) (fun z Q h=>?_) ?_
  ·simp(disch:=omega)only[bU]
  ·refine .inl ⟨M,?_⟩;have aw:=W.set S (.cells [ah (n:Int),ah (n:Int),bJ w,I,f] 0);rw[vR,ao rfl];show aH _ 2 I (o++fq n [jP n i (-1) g]) M;rw[←O];simpa [fq,pH]using aw
  ·simp only[go_sem]
  ·rw[af.aK,aj (fun e=>am e.symm),G z Q (by intro a b d;rw[h]at d;cases d),h]
  ·rw[af.aK,aj aa,G z aa (by intro a b d;rw[h]at d;cases d),h]
  ·simp only[go_sem];omega
def l9(n:Nat):Nat→List b9→List (List ax)
 |_,[]=>[]
 |j,s::l=>uu n j s++vR n j s++l9 n (j+1) l
theorem QG(n:Nat)(s:b9):∀(j:Nat) (l:List b9),l9 n j (l++[s])=l9 n j l++(uu n (j+l.length) s++vR n (j+l.length) s)
 |j,[]=>by simp[l9]
 |j,a::l=>by
  simp only[eL,l9,QG n s (j+1) l,cV,fl];rw[(aa:j+1+l.length=j+(l.length+1))]
theorem QC(n i:Nat)(s:b9):(uu n i s).length≤1:=by unfold uu;split<;>simp
theorem ao2(n i:Nat)(s:b9):(vR n i s).length≤1:=by unfold vR;split<;>simp
theorem G4(n:Nat):∀(j:Nat) (l:List b9),(l9 n j l).length≤2*l.length
 |_,[]=>aF 0
 |j,s::l=>by
  have:=G4 n (j+1) l;have:=QC n j s;have:=ao2 n j s;simp only[l9,aV,cV];omega
variable{K:List (List ax)}
theorem jE.len{v:V}(b:jE a c 2 v (fq h K)):c3 v=some (.val (ah (K.length:Int))):=by
 rcases b with⟨g,b⟩|⟨e,f,_⟩
 ·rw[b.len ag,rL,uU _ ag]
 ·have:=congrArg kD e;rw[rL]at this;have d:K.length=0:=by rw[kS]at this;omega
  rw[f,d];rfl
theorem jE.dQ{H:af}{v:V}(b:jE a H 2 v (fq h K)):bO H (af.zero H.next) v (gd h K):=by
 rcases b with⟨g,b⟩|⟨d,e,_⟩
 ·exact FQ b (fun _ _ _=>kR)
 ·have:=congrArg kD d;rw[rL]at this;have c:K=[]:=oP (by rw[kS]at this;omega);rw[e,c];exact .fj _ _ _
def IK(n:Nat)(c:List ax)(b:List (List ax))(a:V)(l:List b9)(k:Nat)(F:Fr)(H:af):Prop:=∃(i:Nat) (v:V),k=l.length-i∧i≤l.length∧rd 2 F=.ptr 5 0∧rd 4 F=.ptr 6 0∧rd 14 F=c8 l∧rd 15 F=ah (l.length:Int)∧rd 16 F=ah (i:Int)∧
 H.get 5=.cells [ah (n:Int),ah (n:Int),bJ c,v,a] 0∧H.get 6=.cells [ah 0,ah 0,.ak,.ak,.ak] 0∧jE 7 H 2 v (fq n (b++l9 n 0 (l.take i)))∧8≤H.next
theorem apO(n:Nat)(A:n=1∨n=2)(g:List ax)(f:List (List ax))(bi:f.length≤2)(b:V)(E:aZ b=true∧cellsOf b=[b]∧V.one b=true)(l:List b9)(hl:l.length=n)(G:∀s∈l,iE 90 s)(F:Fr)(H:af)(R:X→Fr→af→Prop)(k:Nat)(Y:IK n g f b l k F H)
 (Z:∀j h v,rd 2 j=.ptr 5 0→rd 4 j=.ptr 6 0→h.get 5=.cells [ah (n:Int),ah (n:Int),bJ g,v,b] 0→h.get 6=.cells [ah 0,ah 0,.ak,.ak,.ak] 0→jE 7 h 2 v (fq n (f++l9 n 0 l))→R (.exit 0) j h):
 bw (.loop (pc 18 3)) R F H:=by
 refine bK (IK n g f b l) k Y ?_;rintro m ba a ⟨i,v,rfl,be,d,C,p,q,r,t,D,u,bs⟩;rw[Y5];by_cases ap:i<l.length
 ·obtain⟨s,B⟩:∃s,l[i]? =some s:=⟨l[i],cx ap⟩;have I:=eN B;have W:=gi mb B;have w:decide ((i:Int)<(l.length:Int))=true:=bm aa;have w1:aB .i64 ((i:Int)+1)=((i+1:Nat):Int):=by rw[aI _ aa];rfl
  have al:=eU (f:=eB) (k:=10) (l:=l) (i:=(i:Int)) (ik:=.i64) aa;have aw:=G4 n 0 (l.take i);rw[dP]at aw;have a0:=rL n (f++l9 n 0 (l.take i));rw[aV]at a0;have N:aZ (.agg (eB s))=true:=rfl;have O:cellsOf (.agg (eB s))=eB s:=rfl;have P:cn (eB s)=10:=rfl;have Q:cz (eB s) [aC,.ak,aC,.ak,aC,.ak,aC,.ak,aC,aC] 0=some (eB s):=rfl;have S:cK (eB s)=true:=rfl;have J:=arT n i A aa;unfold gD at J;have c2:∀o,cK (gf n o)=true:=fun _=>rfl
  have a5:¬a.next=5:=aa
  have ca:¬a.next=6:=aa
  have b':¬a.next+1=5:=aa
  have K:¬a.next+1=a.next:=aa
  unfold c8 at p;simp only[go_sem,Lo,TW,Q_,p,q,r,w,al,bH,W,N,O,P,Q,S];simp only[go_sem,Ra,d,a5,t];refine use J ?_;simp only[go_sem,gf];have z:∀y,y<a.next→((((a.push (.cells [aC,.ak,aC,.ak,aC,.ak,aC,.ak,aC,aC] 0)).set a.next (.cells (eB s) 0)).push (.cells [ah 0,.ak] 0)).set (a.next+1) (.cells [ah (n:Int),bJ [(1,U n i)]] 0)).get y=a.get y:=fun y hy=>by
   have q1:¬a.next=y:=aa
   have a7:¬a.next+1=y:=aa
   simp only[go_sem,q1,a7]
  have ab:=u.low aa z (by simp only[go_sem];omega);refine apM n A i aa s (G s I) g b a.next (a.next+1) 7 v _ _ _ _ _ ?_ ?_ ?_ (by rw[z 5 aa,t]) ?_ ?_ ab (by simp only[go_sem];omega) ag aa (by simp only[go_sem];omega) (by simp only[go_sem];omega) (by simp only[go_sem];omega) E ?_
  iterate 4 simp only[go_sem,d,K]
  ·simp only[go_sem];rfl
  intro bb M v2 c ac a3 x bj ar;simp only[go_sem]at ar;have a4:M.get 6=.cells [ah 0,ah 0,.ak,.ak,.ak] 0:=x 6 _ (by simp only[go_sem];omega) ag (by rw[z 6 aa,D]);have ll:=QC n i s;have b0:=rL n (uu n i s);refine apN n A i aa s (G s I) g b a.next (a.next+1) 7 v2 _ _ _ _ ?_ ?_ ?_ a3 ?_ ?_ ac aa ag ?_ aa aa aa E ?_
  ·rw[c 2 ag];simp only[go_sem,d]
  ·rw[c 7 ag];simp only[go_sem]
  ·rw[c 8 ag];simp only[go_sem]
  ·refine x _ _ (by simp only[go_sem];omega) aa ?_;simp only[go_sem,K]
  ·refine x _ _ (by simp only[go_sem];omega) aa ?_;simp only[go_sem];rfl
  ·rw[aV];omega
  intro L H3 v3 e ad a1 ae bo bv;have a2:=ae 6 _ aa ag a4;have T:rd 16 L=ah (i:Int):=by rw[e 16 ag,c 16 ag];simp only[go_sem,r]
  simp only[go_sem,Y3,T,w1];refine⟨l.length-(i+1),aa,i+1,v3,rfl,aa,?_,?_,?_,?_,?_,a1,a2,?_,aa⟩
  ·simp only[go_sem];rw[e 2 ag,c 2 ag];simp only[go_sem,d]
  ·simp only[go_sem];rw[e 4 ag,c 4 ag];simp only[go_sem,C]
  ·simp only[go_sem];rw[e 14 ag,c 14 ag];simp only[go_sem,p];rfl
  ·simp only[go_sem];rw[e 15 ag,c 15 ag];simp only[go_sem,q]
  ·simp only[go_sem]
  ·rw[CQ B,QG,dP,eJ,m4 aa,←fl,←fl,zJ,zJ];exact ad
 ·have am:i=l.length:=aa;subst am;have w:decide ((l.length:Int)<(l.length:Int))=false:=a_ aa;rw[b8 (aF _)]at u;simp only[go_sem,Lo,q,r,w];refine Z _ _ v ?_ ?_ t D u
  iterate 2 simp only[go_sem,d,C]
theorem QU(p:fc)(h:p.az)(l:List b9)(hl:l.length=p.n)(U:∀s∈l,iE 90 s):aS 18 [fJ p,c8 l] (.aA [fJ ⟨p.n,p.obj,p.is++l9 p.n 0 l,p.es⟩,bE]):=by
 have R:=h.n;have Y:=h.li;have aw:=G4 p.n 0 l;obtain⟨a,k⟩:∃a,a=gd p.n p.es:=⟨_,rfl⟩;have N:aZ a=true∧cellsOf a=[a]∧V.one a=true:=by rw[k];exact⟨rfl,rfl,rfl⟩
 obtain⟨I,J,u⟩:=N;have Z:∀t,aZ (bJ t)=true∧cellsOf (bJ t)=[bJ t]∧V.one (bJ t)=true:=fun _=>⟨rfl,rfl,rfl⟩
 obtain⟨a0,a1,ab⟩:=Z p.obj;refine fK (.cons (oz p) (.cons (lE l) .nil)) (aT BO ?_);unfold fJ;rw[←k];simp only[go_sem,d18,Y8];obtain⟨b,d⟩:∃b,b=((((af.zero 5).push (.cells [ah (p.n:Int),ah (p.n:Int),bJ p.obj,gd p.n p.is,a] 0)).push (.cells [ah 0,ah 0,.ak,.ak,.ak] 0)).push (.cells [] 0)):=⟨_,rfl⟩;have x:b.get 5=.cells [ah (p.n:Int),ah (p.n:Int),bJ p.obj,gd p.n p.is,a] 0:=by rw[d];simp only[go_sem]
 have y:b.get 6=.cells [ah 0,ah 0,.ak,.ak,.ak] 0:=by rw[d];simp only[go_sem]
 have bh:b.get 7=.cells [] 0:=by rw[d];simp only[go_sem]
 have ar:b.next=8:=by rw[d];simp only[go_sem]
 rw[←d];clear d;obtain⟨Q,z⟩:∃Q:X→Fr→af→Prop,Q=(fu [gH.cell 4 true 5,gH.tmp 5] fun v1 q=>∃v,bO q (af.zero q.next) v1 v∧bA v∧v=V.aA [.agg [ah (p.n:Int),ah (p.n:Int),bJ p.obj,gd p.n (p.is++l9 p.n 0 l),a],bE]):=⟨_,rfl⟩
 rw[←z];have D:∀(f:Fr) (c:af) (v:V),rd 1 f=c8 l→rd 2 f=.ptr 5 0→rd 4 f=.ptr 6 0→c.get 5=.cells [ah (p.n:Int),ah (p.n:Int),bJ p.obj,v,a] 0→c.get 6=.cells [ah 0,ah 0,.ak,.ak,.ak] 0→8≤c.next→jE 7 c 2 v (fq p.n p.is)→bw (pc 18 5) Q f c:=by
  intro f c v w K L g m S M;unfold c8 at w;simp only[go_sem,Y7,w];refine apO p.n R p.obj p.is Y a ⟨I,J,u⟩ l hl U _ _ _ l.length ⟨0,v,rfl,b4 _,?_,?_,?_,?_,?_,g,m,?_,S⟩ ?_
  iterate 2 simp only[go_sem,K,L]
  ·simp only[go_sem];rfl
  ·simp only[go_sem]
  ·simp only[go_sem];rfl
  ·show jE 7 c 2 v (fq p.n (p.is++[]));rw[fN];exact M
  intro al H3 v3 H r W A i;have P:=i.len;obtain⟨E,F,o⟩:=i.aZ;have G:decide ((16:Int)<((p.is++l9 p.n 0 l).length:Int))=false:=a_ (by rw[aV];omega);simp only[go_sem,Y6,H,r,W,A,P,G,o,u,ab,je,true_and];rw[z];simp only[go_sem,r];have O:bA (V.aA [.agg [ah (p.n:Int),ah (p.n:Int),bJ p.obj,gd p.n (p.is++l9 p.n 0 l),a],bE]):=by
   rw[k];exact .aA (.cons (oz ⟨p.n,p.obj,p.is++l9 p.n 0 l,p.es⟩) (.cons (.bool _) .nil))
  exact⟨_,.aA (.cons (.agg (.cons (.same _) (.cons (.same _) (.cons (.same _) (.cons (i.set A ag (.cells [ah (p.n:Int),ah (p.n:Int),bJ p.obj,v3,a] 0)).dQ (.cons (.same _) .nil)))))) (.cons (.same _) .nil)),O,rfl⟩
 by_cases j:p.is=[]
 ·have e:fA 2 32 [V.slice 7 0 0 (Cap.known 0),gd p.n p.is] b=some (.slice 7 0 0 (.known 0),b):=by rw[j];rfl
  rw[e];simp only[go_sem,x];refine D _ _ (.slice 7 0 0 (.known 0)) ?_ ?_ ?_ ?_ ?_ ?_ ?_
  iterate 5 simp only[go_sem,y]
  ·simp only[go_sem];omega
  ·refine .inr ⟨by rw[j];rfl,rfl,?_⟩;simp only[go_sem,bh]
 ·have T:0<p.is.length:=List.length_pos_iff.2 j;refine xg (n:=p.is.length) (cs:=fq p.n p.is) bh T (rL _ _) ag ⟨aa,ag⟩ fun v2 H4 B C a2=>?_
  have g:=(C 5 aa).trans x;have m:=(C 6 aa).trans y;obtain⟨E,F,o⟩:=B.aZ;simp only[go_sem,g,E,F,o];refine D _ _ v2 ?_ ?_ ?_ ?_ ?_ ?_ (.inl ⟨_,B.set g _⟩)
  iterate 5 simp only[go_sem,m]
  ·simp only[go_sem];omega
section
open Go.au Go.Proofs.Tryz
set_option maxRecDepth 100000
attribute [local irreducible] rd kc ex bF bC re rg mv bN pick alloc box bi bs ba be bq st fa b6 cF cZ cQ c9 dO dN ms cY dF dD dn mx mn dm ap dy cw dr dw bY dx ext dJ neg Go.au.not dG dB dI dH dM dK dz dL dc c_ u8
def VF:=ai 117 f117 0
def VG:=ai 117 f117 1
def KR:=ai 117 f117 2
def VH:=ai 117 f117 3
def VI:=ai 117 f117 4
def VJ:=ai 117 f117 5
def VK:=ai 117 f117 6
def d117:=aU 117 f117
def aj0:=aR f117 117
end
theorem Rh(e:List Nat)(hl:e.length≤1000):aS 117 [bI e,bI e] bE:=by
 refine cM (.cons (ni e) (.cons (ni e) .nil)) (.bool _) (aT aj0 ?_);have j:c3 (bI e)=some (.val (ah (e.length:Int))):=rfl;simp only[go_sem,d117,VK,VJ,j,decide_true,fX];refine bK (fun k a h=>∃i:Nat,k=e.length-i∧i≤e.length∧rd 0 a=bI e∧rd 1 a=bI e∧rd 12 a=ah (e.length:Int)∧rd 13 a=ah (i:Int)) e.length ⟨0,rfl,b4 _,?_,?_,?_,?_⟩ ?_
 iterate 3 simp only[go_sem]
 ·simp only[go_sem];rfl
 rintro k a h ⟨i,rfl,hi,f,g,b,c⟩;rw[VH];by_cases l:i<e.length
 ·have d:decide ((i:Int)<(e.length:Int))=true:=bm aa;have n:aB .i64 ((i:Int)+1)=((i+1:Nat):Int):=by rw[aI _ aa];rfl
  have b6:=nV (l:=e) (i:=(i:Int)) (k:=.i64) aa;have m:=n3 l;simp only[go_sem,KR,VG,f,g,b,c,d,b6,bH,m,decide_true,fX];simp only[go_sem,VF,c,n];refine⟨e.length-(i+1),aa,i+1,rfl,aa,?_,?_,?_,?_⟩
  iterate 4 simp only[go_sem,f,g,b]
 ·have d:decide ((i:Int)<(e.length:Int))=false:=a_ aa;simp only[go_sem,KR,VI,b,c,d]
theorem Ri(n:Nat)(p:List ax)(s:∀t∈p,t.2.length≤1000)(hl:p.length≤1000000):aS 67 [gv n p,gv n p] bE:=by
 refine cM (.cons (sD n p) (.cons (sD n p) .nil)) (.bool _) (aT alR ?_);unfold gv bS;simp only[go_sem,d67,ae0,aeZ,decide_true,fX];refine bK (fun k a b=>∃i:Nat,k=p.length-i∧i≤p.length∧rd 2 a=.ptr 5 0∧rd 3 a=.ptr 6 0∧rd 22 a=ah (p.length:Int)∧rd 23 a=ah (i:Int)∧b.get 5=.cells [ah (n:Int),eD p] 0∧b.get 6=.cells [ah (n:Int),eD p] 0) p.length ⟨0,rfl,b4 _,?_,?_,?_,?_,?_,?_⟩ ?_
 iterate 3 simp only[go_sem]
 ·simp only[go_sem];rfl
 iterate 2 simp only[go_sem]
 rintro k a b ⟨i,rfl,hi,g,h,c,d,j,l⟩;rw[aeX];by_cases r:i<p.length
 ·obtain⟨t,f⟩:∃t,p[i]? =some t:=⟨p[i],cx r⟩;have e:decide ((i:Int)<(p.length:Int))=true:=bm aa;have u:aB .i64 ((i:Int)+1)=((i+1:Nat):Int):=by rw[aI _ aa];rfl
  have b6:=pz (l:=p) (i:=(i:Int)) (k:=.i64) aa;have o:=Is f;have m:cO (jd p) (i*2)=some (.str (bf t.1)):=by
   rw[gO,←cG (i*2),←uR,Iq,drop_cons f];rfl
  have q:=Rh t.2 (s t (eN f));simp only[go_sem,MU,aeW,g,h,c,d,j,l,e,b6,bH,m,o,decide_true,fX];refine use q ?_;simp only[go_sem,aeV,d,u,fX];refine⟨p.length-(i+1),aa,i+1,rfl,aa,?_,?_,?_,?_,j,l⟩
  iterate 4 simp only[go_sem,g,h,c]
 ·have e:decide ((i:Int)<(p.length:Int))=false:=a_ aa;simp only[go_sem,MU,aeY,c,d,e]
theorem am7(a b:Int):rA min2 [ah a,ah b]=some (.val (ah (min a b))):=by
 show some (aX.val (V.int .i64 (match lH b a with|true=>b|false=>a)))=_;rw[qw];by_cases h:b<a
 ·rw[bm h,(aa:min a b=b)]
 ·rw[a_ h,(aa:min a b=a)]
theorem anF(l:List Int)(H:af):c5 7 [mm l] H fun v a=>v=.ptr H.next 0∧a=H.push (.cells (cJ (l.take 400) 0) 0):=by
 refine aT fU ?_;have b:slice3 (j_ 1) false true false [mm l,ah (min (l.length:Int) 400)]=some (.val (mm (l.take 400))):=by
  have e:(min (l.length:Int) 400).toNat=(l.take 400).length:=by rw[dP];omega
  unfold mm;rw[CE aE ⟨aa,aa⟩,e,ef,←List.map_take,dP];rw[show List.take (min 400 l.length) l=List.take 400 l from by rw[List.take_eq_take_iff];omega]
 have c:aZ (mm (l.take 400))=true:=rfl;have d:cellsOf (mm (l.take 400))=[mm (l.take 400)]:=rfl;have bB:V.one (mm (l.take 400))=true:=rfl;simp(disch:=omega)only[go_sem,d7,afh,am7,b,c,d]
 first|exact⟨trivial,rfl⟩|exact⟨rfl,trivial⟩|trivial
theorem al'(l:List Int)(hl:l.length≤400)(a:ir l):lC l 8 [] fun v=>∃p:fc,p.az∧v=fJ p:=by
 refine n8 .nil fun i hi=>aT mK ?_
 simp only[go_sem,d8,afv];refine eV (k_ l hl a 2 ag) ag hi ?_ ?_
 ·simp only[go_sem,mI,c4]
 rintro _ o ⟨k,j,rfl⟩ c;have h:aB .i64 (1+(k:Int))=((k+1:Nat):Int):=by rw[aI _ aa];omega
 simp only[go_sem,h];refine eV (aov l hl a (k+1) aa) ag c ?_ ?_
 ·simp only[go_sem]
 rintro _ f ⟨p,m,e,rfl⟩ d;have g:∀t,aZ (bJ t)=true∧cellsOf (bJ t)=[bJ t]∧V.one (bJ t)=true:=fun _=>⟨rfl,rfl,rfl⟩
 have b:∀t,aZ (gd p.n t)=true∧cellsOf (gd p.n t)=[gd p.n t]∧V.one (gd p.n t)=true:=fun _=>⟨rfl,rfl,rfl⟩
 unfold fJ;simp only[go_sem,c4,(g p.obj).2.2,(b p.is).2.2,(b p.es).2.2];refine⟨f,_,d,?_,.same _,oz p,p,e,rfl⟩;simp only[go_sem]
def uE(s:dR):b9:=⟨rv s.1,rv s.2, !decide (s.1=[]), !decide (s.2=[])⟩
theorem PY:numOf []=none:=by
 cases h:numOf []with
 |none=>rfl
 |some q=>
  have a:=congrArg kD (vN h);unfold bf at a;rw[aV,aV,kS]at a;have:=tL q.num.natAbs;omega
theorem QF(x:List UInt8):(jn x).2=nw x∧(nw x=true→(jn x).1=rv x):=by
 unfold jn nw;by_cases h:x=[]
 ·rw[ao h,bm h];refine⟨rfl,fun _=>?_⟩;rw[h,Cz PY]
 ·rw[aj h,a_ h,Bool.false_or];obtain⟨b,c⟩:=QD x;refine⟨b,fun hi=>?_⟩;obtain⟨q,a⟩:=Option.isSome_iff_exists.1 hi;rw[c q a,uA a]
theorem ao4(s:dR):uv s=if lM s then some (uE s)else none:=by
 obtain⟨k,i⟩:=QF s.1;obtain⟨l,j⟩:=QF s.2;unfold uv;rw[k,l];by_cases h:lM s=true
 ·rw[ao h];unfold lM at h;simp only[cC]at h;obtain⟨⟨a,b⟩,g⟩:=h;have m:¬(s.1≠[]∧s.2≠[]∧0≤gj (rv s.1-rv s.2)):=by
   rintro⟨c,d,f⟩;rw[a_ c,a_ d,a_ (aa:¬gj (rv s.1-rv s.2)<0)]at g;cases g
  rw[i a,j b];exact ao ⟨a,b,m⟩
 ·rw[aj h];by_cases a:nw s.1=true
  ·by_cases b:nw s.2=true
   ·rw[i a,j b,aj];rintro⟨_,_,g⟩;apply h;unfold lM;rw[a,b];by_cases c:s.1=[]
    ·rw[bm c];rfl
    ·by_cases d:s.2=[]
     ·rw[bm d];simp
     ·have f:gj (rv s.1-rv s.2)<0:=by
       by_cases f:gj (rv s.1-rv s.2)<0
       ·exact f
       ·exact absurd ⟨c,d,aa⟩ g
      rw[bm f];simp
   ·rw[aj (fun e=>b e.2.1)]
  ·rw[aj (fun e=>a e.1)]
theorem QH:∀l:List dR,sX l=if l.all lM then some (l.map uE)else none
 |[]=>rfl
 |s::l=>by
  rw[sX,ao4,QH l,List.all_cons,List.map_cons];cases lM s<;>cases l.all lM<;>rfl
theorem ao1{l:List dR}(h:tc a l=true):sW a l=.aA [c8 (l.map uE),bE]:=by
 unfold tc at h;rw[cC]at h;unfold sW;rw[QH,ao h.2];show V.aA [c8 (l.map uE),.bool (decide ((l.map uE).length=a))]=_;rw[iu,h.1]
def C_:jS:=D2 5 nK qj qH 400
theorem SF:oL eO 5 C_:=Kj hT b5 PU gb 400
def BJ(v:V):Bool:=match v with|.bool b=>b|_=>false
def Pa:Bool:=match C_ (.fn 10) [] cU with
 |some (v,H)=>and (BJ v) (and (u6 (H.get 0) (cU.get 0)) (and (u6 (H.get 1) (cU.get 1)) (u6 (H.get 4) (cU.get 4))))
 |none=>false
theorem al8:Pa=true:=by kernel_rfl
theorem Gb:ew 10 [] bE:=by
 refine eK .nil ?_;have h:=al8;unfold Pa at h;cases b:C_ (.fn 10) [] cU with
 |none=>rw[b]at h;cases h
 |some r=>
  obtain⟨v,H⟩:=r;rw[b]at h;have c:and (BJ v) (and (u6 (H.get 0) (cU.get 0)) (and (u6 (H.get 1) (cU.get 1)) (u6 (H.get 4) (cU.get 4))))=true:=h;rw[cC,cC,cC]at c;obtain⟨d,j,k,l⟩:=c;have n:v=bE:=by
   cases v<;>first|(cases d;done)|skip
   exact congrArg V.bool d
  have m:GT H:=fun y p e=>by
   rw[←e];rw[lG]at e;split at e
   ·rename_i f;subst f;exact DI l
   ·split at e
    ·rename_i a;subst a;exact DI k
    ·split at e
     ·rename_i a;subst a;exact DI j
     ·cases e
  refine(SF b).mono fun q o ⟨g,i⟩=>?_
  rw[g,i];exact cg m n (.bool _)
def rM(p:fc):List V:=[ah (p.n:Int),ah (p.n:Int),bJ p.obj,gd p.n p.is,gd p.n p.es]
theorem M8(h:a<2^9):(dec a).length≤3:=by
 by_cases b:a=0
 ·rw[b];decide
 ·have:dec a=ds a:=aj b;rw[this];exact ql (k:=3) (qg h ag)
theorem asp{s:b9}(h:iE 9 s):zZ (eC s):=by
 have b:∀q:Rat,bg 9 q→(bf q).length≤20:=fun q a=>by
  have e:=M8 a.num;have f:=M8 a.den;unfold bf;rw[aV,aV];have c:(if q.num<0 then [(45:UInt8)]else []).length≤1:=by split<;>simp
  have d:(if q.den=1 then []else(47:UInt8)::dec q.den).length≤4:=by
   split
   ·simp
   ·rw[cV];omega
  omega
 unfold eC zZ;constructor
 ·show(if s.hl then bf s.lo else []).length≤20;split
  ·exact b _ h.1
  ·simp
 ·show(if s.hh then bf s.hi else []).length≤20;split
  ·exact b _ h.2
  ·simp
open Go.RowKit (Below)
def uH(k:IntKind)(l:List Nat):Array Value:=(l.map fun n=>Value.int k (.ofNat n)).toArray
def lP(w:World)(g:Nat)(k:IntKind)(l:List Nat):Prop:=∃t,w.heap[g]? =some (.cells (uH k l) t (0,0))
def rS(k:IntKind)(l:List Nat):List V:=l.map fun d:Nat=>V.int k (d:Int)
theorem aq0{k:IntKind}{l:List Nat}{i:Nat}{v:V}(h:(rS k l)[i]? =some v):∃n,l[i]? =some n∧v=.int k (.ofNat n):=by
 unfold rS at h;rw[iW]at h;cases hl:l[i]? with
 |none=>rw[hl]at h;cases h
 |some n=>rw[hl]at h;cases h;exact⟨n,rfl,rfl⟩
theorem lP.cell{w:World}{g:Nat}{k:IntKind}{l:List Nat}(h:lP w g k l){i n:Nat}(hi:l[i]? =some n):w.cell? ⟨g,i,none⟩=some (.int k (.ofNat n))∧w.frozen? ⟨g,i,none⟩=false:=by
 obtain⟨t,h⟩:=h;unfold World.cell? World.frozen?;simp only[h];refine⟨?_,aE⟩;simp[uH,hi]
theorem lP.kind{w:World}{g:Nat}{k:IntKind}{l:List Nat}(h:lP w g k l){o:Nat}{v:Value}(hc:w.cell? ⟨g,o,none⟩=some v):∃z,v=.int k z:=by
 obtain⟨t,h⟩:=h;unfold World.cell? at hc;simp only[h]at hc;simp[uH]at hc;obtain⟨a,_,h2⟩:=hc;exact⟨_,h2.symm⟩
def xC(b:Nat):Nat:=if b=0 then 20 else if b=1 then 64 else if b=4 then 32 else 0
def za(S:List Nat)(w:World)(c:Nat):Option Obj:=if c∈S then w.heap[c]? else none
def uq(S:List Nat)(w:World):aG:=⟨fun b=>if b<5 then some ⟨b,0,xC b⟩else none,za S w⟩
theorem xM{S:List Nat}{w:World}{b:Nat}(h:b<5):uq S w b=some ⟨b,0,xC b⟩:=ao h
theorem ur{S:List Nat}{w:World}{b:Nat}{l:Go.au.Loc}(h:uq S w b=some l):b<5∧l=⟨b,0,xC b⟩:=by
 by_cases hb:b<5
 ·rw[xM hb]at h;cases h;exact⟨hb,rfl⟩
 ·rw[show uq S w b=none from aj hb]at h;cases h
structure Start (w:World) (S:List Nat):Prop where
 t0:lP w 0 .u64 mR
 t1:lP w 1 .u8 nE
 t4:lP w 4 .u8 qP
 size:5≤w.heap.size
 im:∀c∈S,(∃cs t fr,w.heap[c]? =some (.cells cs t fr))∧c≠0∧c≠1∧c≠4
theorem Dd{b g:Nat}{cs:List V}(h:cU.get b=.cells cs g):g=0∧((b=0∧cs=rS .u64 mR)∨(b=1∧cs=rS .u8 nE)∨(b=4∧cs=rS .u8 qP)):=by
 rw[lG]at h;split at h
 ·rename_i e;cases h;exact⟨rfl,.inr (.inr ⟨e,rfl⟩)⟩
 ·split at h
  ·rename_i e;cases h;exact⟨rfl,.inr (.inl ⟨e,rfl⟩)⟩
  ·split at h
   ·rename_i e;cases h;exact⟨rfl,.inl ⟨e,rfl⟩⟩
   ·cases h
theorem ID{w:World}{S:List Nat}(hS:Start w S){b g:Nat}{cs:List V}(h:cU.get b=.cells cs g):g=0∧∃k L,lP w b k L∧cs=rS k L∧b<5∧L.length=xC b:=by
 obtain⟨h1,h2⟩:=Dd h;rcases h2 with⟨rfl,rfl⟩|⟨rfl,rfl⟩|⟨rfl,rfl⟩
 ·exact⟨h1,_,_,hS.t0,rfl,ag,rfl⟩
 ·exact⟨h1,_,_,hS.t1,rfl,ag,rfl⟩
 ·exact⟨h1,_,_,hS.t4,rfl,ag,rfl⟩
theorem SL{b x y:Nat}(h:cU.get b=.bD x y):False:=by
 rw[lG]at h;split at h
 ·cases h
 ·split at h
  ·cases h
  ·split at h<;>cases h
theorem SM{b:Nat}{o:om}(h:cU.get b=.cl o):False:=by
 rw[lG]at h;split at h
 ·cases h
 ·split at h
  ·cases h
  ·split at h<;>cases h
theorem apo{w:World}{S:List Nat}(hS:Start w S):Rel (uq S w) cU w:=by
 refine⟨?_,?_,?_,?_,?_,?_,?_,?_,?_,?_,?_⟩
 ·intro b l cs g i v e1 e2 _ Fs;obtain⟨_,k,L,h1,rfl,h3,_⟩:=ID hS e2;obtain⟨_,rfl⟩:=ur e1;obtain⟨n,hn,rfl⟩:=aq0 Fs;refine⟨_,?_,.int k (.ofNat n)⟩;show w.cell? ⟨b,0+i,none⟩=_;rw[eJ];exact(h1.cell hn).1
 ·intro b l i e1 hi;obtain⟨_,rfl⟩:=ur e1;have z8:∀ {g:Nat}{k:IntKind}{L:List Nat},lP w g k L→i<L.length→(∃v',w.cell? ⟨g,0+i,none⟩=some v')∧w.frozen? ⟨g,0+i,none⟩=false:=by
   intro g k L h hi;have:=h.cell (cx hi);rw[eJ];exact⟨⟨_,this.1⟩,this.2⟩
  have hi':i<xC b:=hi;unfold xC at hi';split at hi'
  ·rename_i e;subst e;exact z8 hS.t0 hi'
  ·split at hi'
   ·rename_i e;subst e;exact z8 hS.t1 hi'
   ·split at hi'
    ·rename_i e;subst e;exact z8 hS.t4 hi'
    ·omega
 ·intro b l cs g e1 e2;obtain⟨_,k,L,_,rfl,_,h4⟩:=ID hS e2;obtain⟨_,rfl⟩:=ur e1;unfold rS;rw[iu,h4];exact aF _
 ·intro b b' l l' e1 e2 Be Fs;obtain⟨_,rfl⟩:=ur e1;obtain⟨_,rfl⟩:=ur e2;exact absurd Be Fs
 ·intro b hb;have hb':5≤b:=hb;exact⟨aj aa,yb.top b hb'⟩
 ·intro b l e1;obtain⟨h,rfl⟩:=ur e1;exact eF h hS.size
 ·intro b cs g leaf tU e1 e2;exact absurd (Dd e1).1 e2
 ·intro g leaf tU e1;exact(SL e1).elim
 ·intro b l o _ e2;exact(SM e2).elim
 ·intro c x e;have e':za S w c=some x:=e;unfold za at e';split at e'
  ·rename_i hc;obtain⟨⟨cs,t,fr,h1⟩,h2,h3,h4⟩:=hS.im c hc;rw[h1]at e';refine⟨by rw[h1];exact e',⟨cs,t,fr,(Option.some.inj e').symm⟩,fun b l e1 e2=>?_⟩;obtain⟨_,rfl⟩:=ur e1;have e2:b=c:=e2;rw[lG,aj aa,aj aa,aj aa]
  ·cases e'
 ·intro b cs g e;rw[(Dd e).1];exact Nat.zero_lt_succ _
theorem ah2(S:List Nat)(w:World):lu 5 (uq S w):=fun _ hg=>⟨_,xM hg⟩
theorem HU{w w':World}{ψ:aG}{H':af}{g n:Nat}{k:IntKind}{L:List Nat}(hr:Rel ψ H' w')(hs:hU w w')(ai1:ψ g=some ⟨g,0,n⟩)(aiu:H'.get g=.cells (rS k L) 0)(h:lP w g k L):w'.heap[g]? =w.heap[g]? :=by
 obtain⟨t,h0⟩:=h;obtain⟨cs',h1,h2⟩:=hs.shape g _ t (0,0) h0;rw[h1,h0];have:cs'=uH k L:=by
  refine Array.ext h2 ?_;intro i hi1 hi2;have y_:i<L.length:=by simpa [uH]using hi2
  have hn:(rS k L)[i]? =some (.int k (.ofNat L[i])):=by unfold rS;simp[y_]
  obtain⟨v',e1,e2⟩:=hr.cell ai1 aiu rfl hn;cases e2;rw[eJ]at e1;unfold World.cell? at e1;simp only[h1]at e1;simp[hi1]at e1;rw[e1];simp[uH]
 rw[this]
theorem Rg{φ:aG}:∀l:List Int,bp φ (l.map fun z=>V.int .i64 z) (l.map fun z=>Value.int .i64 z)
 |[]=>.nil
 |z::l=>.cons (.int _ _) (Rg l)
theorem S5(c o i:Nat):(Addr.add ⟨c,o,none⟩ i)=⟨c,o+i,none⟩:=by
 unfold Addr.add;split
 ·rename_i e;rw[e];rfl
 ·rfl
theorem aoj{W:World}{c o:Nat}{sp:Option Nat}{v:Value}(h:W.cell? ⟨c,o,sp⟩=some v):sp=none:=by
 unfold World.cell? at h;cases sp with
 |none=>rfl
 |some s=>split at h<;>simp at h
theorem Um{W:World}{c o:Nat}{v:Value}(h:W.cell? ⟨c,o,none⟩=some v):∃cs t fr,W.heap[c]? =some (.cells cs t fr):=by
 unfold World.cell? at h;split at h
 ·rename_i e;exact⟨_,_,_,e⟩
 ·cases h
theorem Tr{W:World}{c o:Nat}{v:Value}{x:Obj}(hx:W.heap[c]? =some x)(h:W.cell? ⟨c,o,none⟩=some v):Obj.at x o v:=by
 intro w j hj;unfold World.cell? at h⊢;simp only[hx]at h;simp only[hj];exact h
def IL(W:World)(sl:Value):Prop:=sl=.slice none 0 0∨∃(a:Addr) (len cap:Nat) (zs:List Int),sl=.slice (some a) len cap∧len=zs.length∧len≤cap∧(∀i,i<zs.length→W.cell? (a.add i)=some (.int .i64 (zs.getD i 0)))∧ir zs
open Go.ChangeShapes
theorem ama:(Rows.laid_internal_strconv_uint64pow10:DataW Unit)=Lib.tabData .u64 (mR.map Int.ofNat):=by kernel_rfl
theorem amb:(Rows.laid_math_bits_deBruijn64tab:DataW Unit)=Lib.tabData .u8 (nE.map Int.ofNat):=by kernel_rfl
theorem amc:(Rows.laid_math_bits_deBruijn32tab:DataW Unit)=Lib.tabData .u8 (qP.map Int.ofNat):=by kernel_rfl
theorem ani:bL 5 eO.globals.size=true:=by kernel_rfl
theorem apK:(p_ 5).all (fun g=>(((begin eO (fun _ _=>0) default).world.heap[g]?).bind Obj.row?).isSome)=true:=by kernel_rfl
theorem Ot{W:World}(h:W.ShapedOpen eO)(g:Nat)(hg:g<5):∃cs t,W.heap[g]? =some (.cells cs t (0,0)):=by
 have h1:=List.all_eq_true.1 apK g (List.mem_range.2 hg);obtain⟨⟨zero,t⟩,hz⟩:=Option.isSome_iff_exists.1 h1;have hn:=kV ani;obtain⟨cs,h2,_⟩:=h.1 g zero t aa hz;exact⟨cs,t,h2⟩
theorem HT{W:World}(hsh:W.ShapedOpen eO){name:String}{g:Nat}{k:IntKind}{L:List Nat}{cs:Array Value}(hg:eO.globalNamed name=some g)(aiM:g<5)(hv:W.var? eO name=some cs)(hc:cs.toList=(L.map Int.ofNat).map fun z=>Value.int k z):lP W g k L:=by
 obtain⟨cs',t,hh⟩:=Ot hsh g aiM;unfold World.var? at hv;rw[hg]at hv;simp only[Option.bind_some,hh,Option.some.injEq]at hv;subst hv;refine⟨t,?_⟩;rw[hh];have:cs'=uH k L:=by
  apply uM;rw[hc];simp[uH]
 rw[this]
theorem Ou:eO.globalNamed "internal/strconv.uint64pow10"=some 0:=by kernel_rfl
theorem BD:eO.globalNamed "math/bits.deBruijn64tab"=some 1:=by kernel_rfl
theorem Ov:eO.globalNamed "math/bits.deBruijn32tab"=some 4:=by kernel_rfl
structure Dp (g:Nat) (n:Nat) (k:IntKind) (t e:TypeId):Prop where
 ty:(eO.globals[g]?).map (·.type)=some t
 ht:eO.underlying t=some (.array n e)
 he:eO.underlying e=some (.int k)
 hce:eO.cellsOf e=1
 hct:eO.cellsOf t=n
theorem ajb{H:Type}{enc:TypeId×Value→H}{P:Program}{t e:TypeId}{W W':World}{a:Option Addr}{len cap:Nat}{d:DataW H}{ps:List MemPlace}(ht:P.underlying t=some (.slice e))(he:P.underlying e=some (.int .i64))(hc:P.cellsOf e=1)
 (hb:Below W.heap.size W W') (h:DataW.Trod enc P W 0 (fun _=>true) true t (.slice a len cap) d ps):DataW.Trod enc P W' 0 (fun b=>decide (b<W.heap.size)) true t (.slice a len cap) d ps:=by
 obtain⟨fuel,hf⟩:=h;rcases open_ints ht he hc hf with⟨hcs,hx⟩|⟨x,l,c,zs,hcs,_,hl,hm,hz,hx,hcell,F1⟩
 ·simp[Value.cells]at hcs;obtain⟨rfl,rfl,rfl⟩:=hcs;simp only[Prod.mk.injEq]at hx;obtain⟨rfl,rfl⟩:=hx;exact Go.RowKit.shut_slice_nil ht
 ·simp[Value.cells]at hcs;obtain⟨rfl,rfl,rfl⟩:=hcs;simp only[Prod.mk.injEq]at hx;obtain⟨rfl,rfl⟩:=hx;simp only[if_true]at hz;have hlt:0<zs.length→x.block<W.heap.size:=by
   intro h0;have h1:=hcell 0 h0;have h2:(x.add 0).block=x.block:=block_add x 0;unfold World.cell? at h1;rw[h2]at h1;rcases oe x.block W.heap.size with h3|h3
   ·exact h3
   ·rw[Array.getElem?_eq_none h3]at h1;cases h1
  refine⟨2,shut_ints 0 ht he hc (b4 _) hl hm ?_ ?_ F1⟩
  ·by_cases h0:0<zs.length
   ·simp[hlt h0,hz]
   ·have:cap=0:=aa;have:len=0:=aa;simp_all
  ·intro i hi;rw[hb.cell (by rw[block_add];exact hlt aa)];exact hcell i hi
theorem wf_i64{z:Int}(h:(Lit.int .i64 z).wf=true): -9223372036854775808≤z∧z<9223372036854775808:=by
 have h':(decide (IntKind.min .i64≤z)&&decide (z≤IntKind.max .i64))=true:=h;rw[cC,decide_eq_true_eq,decide_eq_true_eq]at h';have e1:IntKind.min .i64= -9223372036854775808:=ag;have e2:IntKind.max .i64=9223372036854775807:=ag;rw[e1,e2]at h';omega
section
variable {H:Type}{enc:TypeId×Value→H}{P:Program}{W W':World}
end
section
open Go.au
attribute [local irreducible] rd kc ex bF bC re rg mv bN pick alloc box bi bs ba be bq st fa b6 cF cZ cQ c9 dO dN ms cY dF dD dn mx mn dm ap dy cw dr dw bY dx ext dJ neg Go.au.not dG dB dI dH dM dK dz dL dc c_ u8
attribute [go_sem] Int.reduceToNat and_true eL eE kW true_and decide_true decide_false Int.reduceEq Int.reduceLT Int.reduceNe Nat.reduceLT
attribute [go_sem↓] reduceIte
variable{M:aP}
theorem cN(f:Func){Q:V→af→Prop}{a:aP}{r:List gH}(_:(yK none f.body).1=a:=by conv=>lhs;reduce)(_:a=M:=by(try simp only[Int.reduceOfNat,Int.reduceNegSucc,H9]);rfl)
 (_:n6 f=r:=by conv=>lhs;reduce) (d:nK.get aJ u=some f:=by kernel_rfl) (g:sy 5 nK qj f=some (M,r):=by kernel_rfl) (e:bL (cn b) f.ntmps=true:=by rfl)
 (h:bw M (fu r Q) (lV b 0 .nil) c):c5 u b c Q:=oY hT b5 gb d g e h
theorem Ee(f:Func){Q:V→af→Prop}(h:bw (v_ a) (fu (n6 f) Q) (lV b 0 .nil) c)(d:nK.get aJ a=some f:=by kernel_rfl)(g:sy 5 nK qj f=some (v_ a,n6 f):=by kernel_rfl)
 (e:bL (cn b) f.ntmps=true:=by rfl):c5 a b c Q:=oY hT b5 gb d g e h
def en(B:Nat)(H a:af):Prop:=(∀y,y<B→a.get y=H.get y)∧B≤a.next
theorem en.refl{B:Nat}(h:B≤c.next):en B c c:=⟨fun _ _=>rfl,h⟩
theorem en.push{B:Nat}(h:en B c I)(o:cR):en B c (I.push o):=
 ⟨fun y a=>by rw[af.aY,aj (by have:=h.2;omega)];exact h.1 y a,Nat.le_succ_of_le h.2⟩
theorem en.set{B:Nat}(h:en B c I)(d:B≤a)(o:cR):en B c (I.set a o):=
 ⟨fun y b=>by rw[af.aK,aj aa];exact h.1 y b,h.2⟩
theorem en.trans{B:Nat}{a:af}(h:en B c I)(d:en B I a):en B c a:=⟨fun y e=>(d.1 y e).trans (h.1 y e),d.2⟩
def kg(L:List Nat)(F fk:Fr):Prop:=match L with
 |[]=>True
 |t::l=>rd t F=rd t fk∧kg l F fk
@[go_sem]theorem awJ(F fk:Fr):kg [] F fk=True:=rfl
@[go_sem]theorem ap2(t:Nat)(l:List Nat)(F fk:Fr):kg (t::l) F fk=(rd t F=rd t fk∧kg l F fk):=rfl
theorem uB{F fk:Fr}:∀ {L:List Nat},kg L F fk↔∀t∈L,rd t F=rd t fk
 |[]=>⟨fun _ _ h=>(q3 h).elim,fun _=>trivial⟩
 |t::l=>by rw[ap2,uB,List.forall_mem_cons]
def wM(L:List Nat)(B i m:Nat)(fk:Fr)(H0:af)(E:Fr→af→Prop)(R:X→Fr→af→Prop):X→Fr→af→Prop
 |.norm,F,H=>kg L F fk∧en B H0 H∧rd i F=.int .i64 (m:Int)∧E F H
 |x,F,H=>R x F H
section
variable {L:List Nat}{B i m:Nat}{fk F:Fr}{H0 H:af}{E:Fr→af→Prop}{R:X→Fr→af→Prop}
@[go_sem↓]theorem atI:wM L B i m fk H0 E R .norm F H=(kg L F fk∧en B H0 H∧rd i F=ah (m:Int)∧E F H):=rfl
@[go_sem↓]theorem atJ:wM L B i m fk H0 E R .ret F H=R .ret F H:=rfl
@[go_sem↓]theorem atH(k:Nat):wM L B i m fk H0 E R (.exit k) F H=R (.exit k) F H:=rfl
end
theorem qJ{v:V}{F:Fr}(b:h≠a):rd a (put F (some h) v)=rd a F:=by rw[G7,aj b]
theorem DN{R c:X→Fr→af→Prop}(h:∀x F H,R x F H→c x F H):∀x F H,iY a R x F H→iY a c x F H:=by
 intro x F H b;cases x with
 |norm=>exact h _ _ _ b
 |ret=>exact h _ _ _ b
 |exit i=>
  by_cases e:i=a
  ·subst e;rw[fF]at b⊢;exact h _ _ _ b
  ·rw[DM e]at b⊢;exact h _ _ _ b
theorem each{j k o:Nat}{R:X→Fr→af→Prop}{F:Fr}(f:Nat)(L:List Nat)(B:Nat)(E:Nat→Fr→af→Prop)
 (hi:rd a F=ah 0) (T:rd h F=ah (f:Int)) (hl:f<1000000000) (O:h∈L∧a∉L∧u∉L∧j∉L∧a≠h∧u≠h∧a≠u∧a≠j) (N:B≤c.next)
 (l:∀m F c t v,t=u∨t=j∨t=a→E m F c→E m (put F (some t) v) c) (J:E 0 F c)
 (step:∀m b d,m<f→kg L b F→en B c d→rd a b=ah (m:Int)→E m b d→bw M (iY o (wM L B a m F c (E (m+1)) (iY k R))) b d)
 (K:∀b d,kg L b F→en B c d→E f b d→R .norm b d):
 bw (.loop (.seq (.bP [ex u (bi .lss (rd a) (rd h))]) (.seq (.cond (rd u) .skip (.exit k)) (.seq (.block o M) (.bP [ex j (bi .add (rd a) (kc (ah 1))),ex a (mv (rd j))]))))) (iY k R) F c:=by
 obtain⟨P,Q,A,S,d1,d2,d3,I⟩:=O;have n:∀(b:Fr) (z:Nat) (v:V),z∉L→(∀t∈L,rd t b=rd t F)→∀t∈L,rd t (put b (some z) v)=rd t F:=fun b z v W g t G=>by
  rw[qJ (by rintro rfl;exact W G)];exact g t G
 refine bK (fun r b d=>∃m,r=f-m∧m≤f∧(∀t∈L,rd t b=rd t F)∧en B c d∧rd a b=ah (m:Int)∧E m b d) f ⟨0,rfl,b4 _,fun _ _=>rfl,.refl N,hi,J⟩ ?_;rintro r b d ⟨m,rfl,hm,s,hh,w,C⟩;have D:rd h b=ah (f:Int):=by rw[s h P];exact T
 by_cases g:m<f
 ·have U:=step m (put b (some u) bE) d g (uB.2 (n _ _ _ A s)) hh (by rw[qJ (Ne.symm d3)];exact w) (l _ _ _ _ _ (.inl rfl) C);simp only[go_sem,w,D,show((m:Int)<(f:Int))=True from eq_true aa,qJ d3];refine Go.au.wp_mono M (fun x p q=>DN (fun x p q y=>?_) x p q) U;cases x with
  |norm=>
   obtain⟨Z,o,bB,ab⟩:=y;have Y:aB .i64 ((m:Int)+1)=((m+1:Nat):Int):=by rw[aI _ aa];omega
   show bw (.bP _) _ p q;simp only[go_sem,bB,Y,qJ I];exact⟨f-(m+1),aa,m+1,rfl,g,n _ _ _ Q (n _ _ _ S (uB.1 Z)),o,by simp only[go_sem],l _ _ _ _ _ (.inr (.inr rfl)) (l _ _ _ _ _ (.inr (.inl rfl)) ab)⟩
  |ret=>exact y
  |exit e=>exact y
 ·have e:m=f:=aa;subst e;simp only[go_sem,w,D,show((m:Int)<(m:Int))=False from eq_false aa];exact K _ _ (uB.2 (n _ _ _ A s)) hh (l _ _ _ _ _ (.inl rfl) C)
end
section
open Go.au Go.aD
set_option maxRecDepth 100000
attribute [local irreducible] rd kc ex bF bC re rg mv bN pick alloc box bi bs ba be bq st fa b6 cF cZ cQ c9 dO dN ms cY dF dD dn mx mn dm ap dy cw dr dw bY dx ext dJ neg Go.au.not dG dB dI dH dM dK dz dL dc c_ u8
theorem b_(h:GT c:=by repeat (first|assumption|exact ga|refine GT.set ?_ (by first|exact nleb rfl|omega|(simp only[go_sem];omega)) _|refine GT.push ?_ (by first|exact nleb rfl|omega|(simp only[go_sem];omega)) _)):GT c:=h
def eR(n:Nat)(p:List ax):List V:=bS n p++bS n []
def jR(n:Nat)(p:List ax):V:=.agg (eR n p)
theorem Br(n:Nat)(p:List ax):bX (bS n p):=.cons (.int _ _) (.cons (sE _) .nil)
theorem qo(n:Nat)(p:List ax):bX (eR n p):=lF (Br n p) (Br n [])
theorem OB(n:Nat)(p:List ax):ew 204 [jR n p,ah (n:Int)] bE:=by
 refine eK (.cons (.agg (qo n p)) (.cons (.int _ _) .nil)) (cN Tryz.f204 (h:=?_));simp only[go_sem,jR,eR,bS,eL,eE,decide_true];exact cg b_ rfl (.bool _)
theorem Cg(n:Nat):iX n []:=⟨fun _ h=>(q3 h).elim,.nil,b4 _⟩
theorem Sk(n:Nat)(a:n≤6)(p:List ax)(b:iX n p):ew 266 [jR n p,ah 1] bE:=by
 refine eK (.cons (.agg (qo n p)) (.cons (.int _ _) .nil)) (cN Tryz.f266 (h:=?_));simp only[go_sem,jR,eR,bS,eL,eE];refine ck (zN n a p b) b_ ?_;simp only[go_sem];refine ck (zN n a [] (Cg n)) b_ ?_;simp only[go_sem,eD,kS,decide_true,decide_false];exact cg b_ rfl (.bool _)
def oK:List V:=[aC,.ak,aC,.ak]
def v8(q:Rat):V:=.agg (b7 q++(oK++[ah 1]))
theorem NY:bX oK:=.cons (.bool _) (.cons .ak (.cons (.bool _) (.cons .ak .nil)))
theorem FJ(q:Rat):bA (v8 q):=.agg (lF (FH q) (lF NY (.cons (.int _ _) .nil)))
theorem apV(q:Rat):ew 390 [c7 q] (v8 q):=by
 refine eK (.cons (k5 q) .nil) (cN Tryz.f390 (h:=?_));simp only[go_sem,c7,b7];exact cg b_ rfl (FJ q)
theorem asv:ew 234 [.agg [aC,.ak]] (ah 0):=by
 refine eK (.cons (.agg (.cons (.bool _) (.cons .ak .nil))) .nil) (cN Tryz.f234 (h:=?_));simp only[go_sem,decide_true];exact cg b_ rfl (.int _ _)
theorem aoP:ew 171 [.agg oK] (ah 0):=by
 refine eK (.cons (.agg NY) .nil) (cN Tryz.f171 (h:=?_));simp only[go_sem,oK];refine ck asv b_ ?_;simp only[go_sem];exact cg b_ rfl (.int _ _)
def s7(s:List UInt8):V:=.agg [.str s,.str [48],ah 1]
theorem apd(q:Rat)(a:bg 100 q):ew 368 [s7 (bf q)] (.aA [v8 q,bE]):=by
 refine eK (.cons (.agg (.cons (.str _) (.cons (.str _) (.cons (.int _ _) .nil)))) .nil) (cN Tryz.f368 (h:=?_));simp only[go_sem,s7];refine ck (G9 q a) b_ ?_;simp only[go_sem,c7,b7];refine ck (G9 0 ⟨ag,ag⟩) b_ ?_;simp only[go_sem,c7,b7];refine ck (apV q) b_ ?_;simp only[go_sem,v8,b7,oK];refine ck (fun H _=>F3 0 H) b_ ?_;simp only[go_sem];exact cg b_ rfl (.aA (.cons (FJ q) (.cons (.bool _) .nil)))
theorem aqf(q:Rat):ew 392 [v8 q] (ah q.num.sign):=by
 refine eK (.cons (FJ q) .nil) (cN Tryz.f392 (h:=?_));simp only[go_sem,v8,b7,oK];refine ck (fun H _=>G1 q H) b_ ?_;simp only[go_sem];refine ck aoP b_ ?_;simp only[go_sem];exact cg b_ rfl (.int _ _)
theorem aqY(q:Rat)(a:bg 100 q):ew 369 [s7 (bf q)] (.aA [ah q.num.sign,ah 0]):=by
 refine eK (.cons (.agg (.cons (.str _) (.cons (.str _) (.cons (.int _ _) .nil)))) .nil) (cN Tryz.f369 (h:=?_));simp only[go_sem,s7];refine ck (apd q a) b_ ?_;simp only[go_sem,v8,b7,oK];refine ck (aqf q) b_ ?_;simp only[go_sem];exact cg b_ rfl (.aA (.cons (.int _ _) (.cons (.int _ _) .nil)))
theorem en.gt{B:Nat}(h:en B c I)(g:GT c)(a:5≤B:=by(decide)):GT I:=g.keep fun y b=>h.1 y aa
theorem kb{B:Nat}(h:en B c I:=by repeat (first|assumption|refine en.push ?_ _|refine en.set ?_ (by first|exact nleb rfl|omega|(simp only[go_sem];omega)) _)):en B c I:=h
theorem bG(b:a<h):(a=h)=False∧(h=a)=False:=⟨eq_false aa,eq_false aa⟩
structure mu where
 w:Nat
 r:List ax
def iA(n:Nat)(s:mu):List V:=.str (bf (s.w:Rat)):: .str [48]::ah 1::eR n s.r
theorem pP(n:Nat)(s:mu):(iA n s).length=7:=rfl
theorem xk(n:Nat)(s:mu):bX (iA n s):=.cons (.str _) (.cons (.str _) (.cons (.int _ _) (qo n s.r)))
structure mu.az (n:Nat) (s:mu):Prop where
 w:s.w≤4
 r:iX n s.r
theorem iR{l:List f}(b:h<l.length):∃a,a∈l∧l[h]? =some a:=⟨l[h],wB b,cx b⟩
theorem G0(h:a≤4):bg 100 (a:Rat):=Qq (z:=a) (by have:a<2^100:=e_ h ag;omega) ag
theorem anO(n:Nat)(l:List mu)(hl:l.length≤1000)(k:∀s∈l,s.az n):ew 321 [bu (iA n) l] bE:=by
 refine eK (.cons (ie (xk n) l) .nil) (cN Tryz.f321 (h:=?_));simp only[go_sem];refine each l.length [0,7,8] 5 (fun _ _ _=>True) ?_ ?_ aa ag (aF 5) (fun _ _ _ _ _ _ h=>h) trivial ?_ ?_
 iterate 2 simp only[go_sem]
 ·intro m c d i b hh hi _;obtain⟨a,f,e⟩:=iR i;have j:=gi (pP n) e;have g:=hh.gt ga;have p:=hh.2;simp only[go_sem]at b;simp(disch:=omega)only[go_sem,b,hi,eU,j,iA,eR,bS];refine ck (aqY _ (G0 (k a f).w)) b_ ?_;have o:((a.w:Rat).num.sign<0)=False:=eq_false (by rw[Rat.num_natCast];cases a.w;decide;exact(by decide:¬(1:Int)<0));simp only[go_sem,b,hi,o];exact kb
 ·intro c d b hh _;simp only[go_sem];exact cg (hh.gt ga) rfl (.bool _)
structure qh where
 is:List Nat
 gr:List mu
def kq(n:Nat)(p:qh):List V:=[bI p.is,bu (iA n) p.gr]
theorem xO(n:Nat)(p:qh):(kq n p).length=2:=rfl
theorem FG(n:Nat)(p:qh):bX (kq n p):=.cons (ni p.is) (.cons (ie (xk n) p.gr) .nil)
structure qh.az (n k:Nat) (p:qh):Prop where
 is:p.is.Pairwise (·< ·)
 ik:∀x∈p.is,x<k
 li:p.is.length≤1000
 gr:∀s∈p.gr,s.az n
 ls:p.gr.length≤2
theorem arQ(n:Nat)(M:n=1∨n=2)(k:Nat)(o:List ax)(j s:List (List ax))(c:j.length=k)(t:qh)(d:t.az n k)(f:k≤1000):ew 265 [lR n o j s,ah 1,.agg (kq n t)] bE:=by
 have L:n≤6:=aa;refine eK (.cons (vn _ M _ _ _) (.cons (.int _ _) (.cons (.agg (FG _ t)) .nil))) (cN Tryz.f265 (h:=?_));simp only[go_sem,lR,iw,kq];have S:=d.li
 have p:∀b:af,en 7 ((cU.push (.cells [e9 n,ah n,eD o,cB n j,cB n s] 0)).push (.cells (kq n t) 0)) b→GT b∧b.get 5=.cells [e9 n,ah n,eD o,cB n j,cB n s] 0∧b.get 6=.cells (kq n t) 0:=fun b hh=>
  ⟨hh.gt b_,by rw[hh.1 5 ag];simp only[go_sem],by rw[hh.1 6 ag];simp only[go_sem]⟩
 refine each t.is.length [1,3,5,13,14] 7 (fun m F _=>rd 7 F=ah (if m=0 then-1 else(t.is.getD (m-1) 0:Int))) ?_ ?_ aa ag (by simp only[go_sem];omega) ?_ ?_ ?_ ?_
 iterate 2 simp only[go_sem,bI]
 ·intro m F H t v h e;rw[qJ aa];exact e
 ·simp only[go_sem]
 ·intro m C b i c hh hi A;simp only[go_sem]at c;obtain⟨g,y,u⟩:=p b hh;obtain⟨x,B⟩:∃x,t.is.getD m 0=x:=⟨_,rfl⟩;have w:t.is[m]? =some x:=by rw[←B,cy,cx i];rfl
  have E:((if m=0 then-1 else(t.is.getD (m-1) 0:Int))<(x:Int))=True:=eq_true (by
   by_cases z:m=0
   ·rw[ao z];omega
   ·rw[aj z];have O:=List.pairwise_iff_getElem.1 d.is (m-1) m aa i aa;rw[cy,cx (by omega:m-1<t.is.length)];rw[cx i]at w;cases w;exact oc.2 O)
  have G:((x:Int)<(j.length:Int))=True:=eq_true (by have:=d.ik x (eN w);omega);simp(disch:=omega)only[go_sem,c,hi,A,y,nV,n3,B,E,G,sj,q7];exact kb
 ·intro C b c hh A;simp only[go_sem]at c;obtain⟨g,y,u⟩:=p b hh;have bY:((256:Int)<(t.gr.length:Int))=False:=eq_false (by have:=d.ls;omega);simp only[go_sem,c,u,kq,bY];refine ck (anO n t.gr (by have:=d.ls;omega) d.gr) g ?_;simp only[go_sem,u,c,kq];refine each t.gr.length [1,3,5,42,43] 7 (fun _ _ _=>True) ?_ ?_ (by have:=d.ls;omega) ag hh.2 (fun _ _ _ _ _ _ h=>h) trivial ?_ ?_
  iterate 2 simp only[go_sem]
  ·intro m D l i f q hi _;simp only[go_sem,c]at f;obtain⟨Q,I,_⟩:=p l (hh.trans q);obtain⟨a,K,J⟩:=iR i;have P:=gi (pP n) J;have R:=q.2;simp(disch:=omega)only[go_sem,f,hi,eU,P,iA,eR,bS];refine ck (Sk n L a.r (d.gr a K).r) b_ ?_;have N:c3 (e9 n)=some (.val (ah (n:Int))):=rfl;simp only[go_sem,f,I,bG (aa:5<l.next),N]
   refine ck (OB n a.r) b_ ?_;simp only[go_sem,c,f,hi];exact kb
  ·intro D l f q _;simp only[go_sem];exact cg (p l (hh.trans q)).1 rfl (.bool _)
structure Dr (n:Nat) (o:List ax) (is es:List (List ax)):Prop where
 hn:n=1∨n=2
 ho:iX n o
 aiO:∀q∈is,iX n q
 aiH:∀q∈es,iX n q
 li:is.length≤16
 le:es.length≤16
theorem GH(n:Nat)(i:n=1∨n=2)(o:List ax)(f b:List (List ax))(q:List ax)(e:iX n q)(H:af)(g:6≤H.next)(c:H.get 5=.cells (iw n o f b) 0)(h:GT H):
 c5 114 [gv n q,.ptr 5 0] H fun v a=>v=bE∧a=H.push (.cells (bS n q) 0):=by
 refine cN Tryz.f114 (h:=?_);simp only[go_sem,gv,bS];refine ck (zN n aa q e) b_ ?_;have d:c3 (e9 n)=some (.val (ah (n:Int))):=rfl;simp only[go_sem,bG (aa:5<H.next),c,iw,d]
theorem arS{d:List (List ax)}(b:Dr h l K d):ew 60 [lR h l K d] bE:=by
 have k:=b.hn;have J:=b.li;have I:=b.le;refine eK (.cons (vn _ k _ _ _) .nil) (cN Tryz.f60 (h:=?_));have o:∀c:af,en 6 (cU.push (.cells (iw h l K d) 0)) c→GT c∧c.get 5=.cells (iw h l K d) 0:=fun c hh=>⟨hh.gt b_,by rw[hh.1 5 ag];simp only[go_sem]⟩
 have H:B3 114 0 [.ptr 5 0]=some (.val (.func 114 [] [.ptr 5 0])):=rfl;have w:∀x:V,sx [.func 114 [] [.ptr 5 0],x]=some (.fn 114,[x,.ptr 5 0]):=fun _=>rfl
 have E:((16:Int)<(K.length:Int))=False:=eq_false aa;have F:((16:Int)<(d.length:Int))=False:=eq_false aa;simp only[go_sem,lR,iw];refine use (So h k) ?_;simp only[go_sem,E,F,H];refine each K.length [1,3,26,27] 6 (fun _ _ _=>True) ?_ ?_ aa ag (aF 6) (fun _ _ _ _ _ _ b=>b) trivial ?_ ?_
 iterate 2 simp only[go_sem]
 ·intro m B c y e hh hi _;simp only[go_sem]at e;obtain⟨g,q⟩:=o c hh;obtain⟨a,u,t⟩:=iR y;have z:=uK (n:=h) t;have r:=hh.2;simp(disch:=omega)only[go_sem,e,hi,tY,z,bS,w];refine(GH h k l K d a (b.aiO a u) _ (by simp only[go_sem];omega) (by simp only[go_sem,bG (aa:5<c.next),q]) b_).mono fun v i ⟨n,G⟩=>?_
  subst n G;simp only[go_sem,e,hi];exact kb
 ·intro B c e hh _;simp only[go_sem]at e;obtain⟨g,q⟩:=o c hh;simp only[go_sem,e,q,iw];refine each d.length [1,3,38,39] 6 (fun _ _ _=>True) ?_ ?_ aa ag hh.2 (fun _ _ _ _ _ _ b=>b) trivial ?_ ?_
  iterate 2 simp only[go_sem]
  ·intro m C i y f j hi _;simp only[go_sem,e]at f;obtain⟨A,p⟩:=o i (hh.trans j);obtain⟨a,u,t⟩:=iR y;have z:=uK (n:=h) t;have r:=j.2;simp(disch:=omega)only[go_sem,f,hi,tY,z,bS,w];refine(GH h k l K d a (b.aiH a u) _ (by simp only[go_sem];omega) (by simp only[go_sem,bG (aa:5<i.next),p]) b_).mono fun v D ⟨n,s⟩=>?_
   subst n s;simp only[go_sem,e,f,hi];exact kb
  ·intro C i f j _;simp only[go_sem,e]at f;obtain⟨A,p⟩:=o i (hh.trans j);have r:=j.2;simp only[go_sem,f,p,iw,w];refine(GH h k l K d l b.ho _ r p A).mono fun v D ⟨n,s⟩=>?_
   subst n s;simp only[go_sem];exact cg b_ rfl (.bool _)
theorem aoV:ew 264 [ah 1] bE:=by
 refine eK (.cons (.int _ _) .nil) (cN Tryz.f264 (h:=?_));simp only[go_sem];exact cg b_ rfl (.bool _)
@[go_sem]theorem nY(a:f→List V)(l:List f):aZ (bu a l)=true∧cellsOf (bu a l)=[bu a l]∧V.one (bu a l)=true:=⟨rfl,rfl,rfl⟩
structure nH where
 ps:List qh
 ms:List (List ax)
def gS(n:Nat)(c:nH):List V:=[ah 1,bu (kq n) c.ps,bu (eR n) c.ms]
theorem tR(n:Nat)(c:nH):bX (gS n c):=.cons (.int _ _) (.cons (ie (FG n) c.ps) (.cons (ie (qo n) c.ms) .nil))
theorem pR(n:Nat)(p:List ax):(eR n p).length=4:=rfl
structure nH.az (n k e:Nat) (c:nH):Prop where
 ps:∀p∈c.ps,p.az n k
 zi:c.ps.length≤2
 ms:∀p∈c.ms,iX n p
 lm:c.ms.length=e
theorem arO{f:List (List ax)}(d:Dr h l K f)(c:nH)(n:c.az h K.length f.length):ew 199 [lR h l K f,.agg (gS h c)] bE:=by
 have v:=d.hn;have G:=d.li;have F:=d.le;have I:=n.zi;have H:=n.lm;refine eK (.cons (vn _ v _ _ _) (.cons (.agg (tR _ c)) .nil)) (cN Tryz.f199 (h:=?_))
 have k:∀b:af,en 7 ((cU.push (.cells (iw h l K f) 0)).push (.cells (gS h c) 0)) b→GT b∧b.get 5=.cells (iw h l K f) 0∧b.get 6=.cells (gS h c) 0:=fun b hh=>
  ⟨hh.gt b_,by rw[hh.1 5 ag];simp only[go_sem],by rw[hh.1 6 ag];simp only[go_sem]⟩
 have y:((64:Int)<(c.ps.length:Int))=False:=eq_false aa;have z:((c.ms.length:Int)=(f.length:Int))=True:=eq_true aa;have D:c3 (e9 h)=some (.val (ah (h:Int))):=rfl;simp only[go_sem,lR,iw,gS];refine ck (arS d) b_ ?_;simp only[go_sem];refine ck aoV b_ ?_;simp only[go_sem,y,z];refine each c.ps.length [2,3,32,33] 7 (fun _ _ _=>True) ?_ ?_ aa ag (aF 7) (fun _ _ _ _ _ _ d=>d) trivial ?_ ?_
 iterate 2 simp only[go_sem]
 ·intro m w b s e hh hi _;simp only[go_sem]at e;obtain⟨g,u,p⟩:=k b hh;obtain⟨a,r,q⟩:=iR s;have t:=gi (xO h) q;have C:=hh.2;simp(disch:=omega)only[go_sem,e,hi,eU,t,kq,u,p,iw,gS,bG (aa:5<b.next),bG (aa:6<b.next)]
  refine ck (arQ h v _ l K f rfl a (n.ps a r) aa) b_ ?_;simp only[go_sem,e,hi];exact kb
 ·intro w b e hh _;simp only[go_sem]at e;obtain⟨g,u,p⟩:=k b hh;simp only[go_sem,e,p,gS];refine each c.ms.length [2,3,46,47] 7 (fun _ _ _=>True) ?_ ?_ aa ag hh.2 (fun _ _ _ _ _ _ d=>d) trivial ?_ ?_
  iterate 2 simp only[go_sem]
  ·intro m x i s j o hi _;simp only[go_sem,e]at j;obtain⟨E,A,B⟩:=k i (hh.trans o);obtain⟨a,r,q⟩:=iR s;have t:=gi (pR h) q;have C:=o.2;simp(disch:=omega)only[go_sem,j,hi,eU,t,eR,bS,B,gS,bG (aa:6<i.next)]
   refine ck (Sk h aa a (n.ms a r)) b_ ?_;simp only[go_sem,j,A,iw,D,bG (aa:5<i.next)]
   refine ck (OB h a) b_ ?_;simp only[go_sem,e,j,hi];exact kb
  ·intro x i j o _;simp only[go_sem];exact cg (k i (hh.trans o)).1 rfl (.bool _)
inductive p7 where
 |jO
 |wR (k:Int)
 |cert (low:Bool) (c:nH)
inductive kX where
 |split (v:Nat) (a:Rat) (l r:Nat)
 |leaf (f:p7)
def cA(n:Nat):kX→List V
 |.split v a l r=>[.int .i64 1,.int .i64 (v:Int),.str (bf a),.int .i64 (l:Int),.int .i64 (r:Int),.int .i64 0,.ak,.ak,.int .i64 0]
 |.leaf .jO=>[.int .i64 5,.int .i64 0,.str [],.int .i64 0,.int .i64 0,.int .i64 0,.ak,.ak,.int .i64 0]
 |.leaf (.wR k)=>[.int .i64 4,.int .i64 0,.str [],.int .i64 0,.int .i64 0,.int .i64 0,.ak,.ak,.int .i64 k]
 |.leaf (.cert b c)=>[.int .i64 (bif b then 2 else 3),.int .i64 0,.str [],.int .i64 0,.int .i64 0,.int .i64 1,bu (kq n) c.ps,bu (eR n) c.ms,.int .i64 0]
theorem n5(n:Nat)(x:kX):(cA n x).length=9:=by
 rcases x with _|(_|_|_)<;>rfl
theorem nj(n:Nat)(x:kX):bX (cA n x):=by
 rcases x with _|(_|_|_)<;>(unfold cA;repeat' (first|exact ie (FG n) _|exact ie (qo n) _|constructor))
theorem BV:c3 .ak=some (.val (ah 0)):=rfl
theorem pV(q:Rat):(bf q=[])=False:=eq_false fun h=>by have e:=pE q;rw[h]at e;cases e
theorem P7(n:Nat)(x:kX):ew 137 [.agg (cA n x)] bE:=by
 refine eK (.cons (.agg (nj n x)) .nil) (cN Tryz.f137 (h:=?_));rcases x with⟨v,a,l,r⟩|(_|_|⟨b,c⟩)
 ·by_cases h:(v:Int)=0
  ·simp only[go_sem,cA,h,JR,pV];exact cg b_ rfl (.bool _)
  ·simp only[go_sem,cA,h];exact cg b_ rfl (.bool _)
 ·simp only[go_sem,cA];exact cg b_ rfl (.bool _)
 ·simp only[go_sem,cA];exact cg b_ rfl (.bool _)
 ·cases b<;>(simp only[go_sem,cA,cond_true,cond_false];exact cg b_ rfl (.bool _))
theorem HD{a:Rat}(h:w<a):gj (a-w)=1:=by
 have c:0≤(a-w).num:=Rat.num_nonneg.2 (by grind);have b:(a-w).num≠0:=fun e=>by have:=Rat.num_eq_zero.1 e;grind
 unfold gj;rw[aj aa,aj b]
theorem zY{a:Rat}(h:a<w):gj (a-w)= -1:=by
 have b:¬0≤(a-w).num:=fun e=>by have:=Rat.num_nonneg.1 e;grind
 unfold gj;rw[ao aa]
def oX(a:Rat)(s:b9):Prop:=(s.hl=true→s.lo<a)∧(s.hh=true→a<s.hi)
theorem Tw(a:Rat)(s:b9)(g:bg 300 a)(k:iE 300 s)(j:oX a s)(hl:(bf a).length≤500∧(bf s.lo).length≤500∧(bf s.hi).length≤500):ew 93 [.str (bf a),.agg (bR (eC s))] bE:=by
 obtain⟨lo,hi,l,h⟩:=s;obtain⟨m,n⟩:=k;obtain⟨i,c⟩:=j;have v:=wj (bf a) hl.1;have d:=yT (bf a) (bf lo) hl.1 hl.2.1 (a:=300) (b:=300) (by rw[nC];exact g) (by rw[nC];exact m) ag;have b:=yT (bf a) (bf hi) hl.1 hl.2.2 (a:=300) (b:=300) (by rw[nC];exact g) (by rw[nC];exact n) ag;rw[pE,Option.isSome_some]at v;rw[nC,nC]at d b;refine eK (.cons (.str _) (.cons (.agg (o9 _)) .nil)) (cN Tryz.f93 (h:=?_));simp only[go_sem,bR,eC];refine ck v b_ ?_;cases l
 ·cases h
  ·simp only[go_sem,if_false,iM];exact cg b_ rfl (.bool _)
  ·have e:=zY (c rfl);simp only[go_sem,if_false,iM,pV];refine ck b b_ ?_;simp only[go_sem,e];exact cg b_ rfl (.bool _)
 ·have f:=HD (i rfl);simp only[go_sem,if_false,iM,pV];refine ck d b_ ?_;cases h
  ·simp only[go_sem,if_false,iM,f];exact cg b_ rfl (.bool _)
  ·have e:=zY (c rfl);simp only[go_sem,if_false,iM,pV,f];refine ck b b_ ?_;simp only[go_sem,e];exact cg b_ rfl (.bool _)
theorem apH(c:0<h):nh false (.slice a) [.row h b,.ak]=some (.val aC):=by
 obtain⟨m,rfl⟩:∃m,h=m+1:=⟨h-1,aa⟩;rfl
theorem dU{a:Nat}(b:a≠h):(a=h)=False:=eq_false b
theorem Uu(l:List dR)(h:0<l.length∧l.length≤1000)(H:af):c5 198 [bu bR l] H fun v a=>v=.slice (H.next+1) 0 l.length (.grown 2)∧a=((H.push (.cells [] 0)).push (.cells (br bR l) (H.next+2))).push (.bD (H.next+1) (H.next+1)):=by
 refine cN Tryz.f198 (h:=?_);simp only[go_sem,bu,apH h.1];refine Bh (by simp only[go_sem]) h.1 (fO bR mT l) ⟨aa,ag⟩ ?_;simp only[go_sem]
theorem D_(l:List dR)(h:0<l.length∧l.length≤1000)(H:af):c5 136 [hY l] H fun v a=>∃b,H.next≤b∧b+1<a.next∧v=.agg [.slice b 0 l.length (.grown 2)]∧cE a b (b+1) (br bR l)∧∀y,y<H.next→a.get y=H.get y:=by
 refine cN Tryz.f136 (h:=?_);simp only[go_sem,hY,bG (aa:H.next<H.next+1)]
 refine(Uu l h _).mono fun v a ⟨c,d⟩=>?_
 subst c d;simp(disch:=omega)only[go_sem,dU];refine⟨H.next+3,aa,aa,rfl,⟨?_,⟨H.next+3,?_,aF _⟩,sj _⟩,fun y e=>?_⟩
 ·simp(disch:=omega)only[go_sem,dU]
 ·simp(disch:=omega)only[go_sem,dU]
 ·simp(disch:=omega)only[go_sem,dU]
theorem BY{d:f→List V}(g:∀a,(d a).length=h)(j:0<h){m:List f}(k:m.length=L)(e:cE c u (u+1) (br d m))(i:GT c)(t:u+1<c.next):bO c (cU.kh c.next) (.slice u 0 L (.grown h)) (bu d m):=by
 subst k;obtain⟨r,l,n⟩:=e.bD;refine mH g j (.cells e.row l n e.ne (fO d g m) aa aa) (cD.refl _) (fun y s b=>?_) (fO d g m);rw[af.sK,lG];by_cases o:y=0
 ·subst o;rw[i.mR]at b;exact absurd (cR.cells.inj b).2 aa
 by_cases p:y=1
 ·subst p;rw[i.nE]at b;exact absurd (cR.cells.inj b).2 aa
 by_cases q:y=4
 ·subst q;rw[i.qP]at b;exact absurd (cR.cells.inj b).2 aa
 rw[aj aa,aj aa,aj aa]
theorem KA(l:List dR)(h:0<l.length∧l.length≤1000):ew 136 [hY l] (hY l):=by
 refine eK (.cons (o8 l) .nil) ((D_ l h cU).mono fun v a ⟨b,i,f,c,d,e⟩=>?_);subst c;have g:GT a:=ga.keep e;exact⟨g,_,.agg (.cons (BY mT ag rfl d g f) .nil),o8 l,rfl⟩
theorem Hr{f:dR→List V}(c:∀a,(f a).length=2):∀(l:List dR) (i:Nat) (o:Nat) (v:V) (b:dR),o<2→(∀a,l[i]? =some a→(f a).set o v=f b)→i<l.length→(br f l).set (i*2+o) v=br f (l.set i b)
 |[],i,_,_,_,_,_,h=>(m5 i h).elim
 |a::l,0,o,v,b,e,d,_=>by
  rw[jg,eJ,br,List.set_append_left _ _ (by rw[c];exact e),d a rfl];rfl
 |a::l,i+1,o,v,b,e,d,h=>by
  rw[br,List.set_append_right _ _ (by rw[c];omega),c,(aa:(i+1)*2+o-2=i*2+o),Hr c l i o v b e d (Nat.lt_of_succ_lt_succ h)];rfl
def pn(l:List dR)(i:Nat)(a:List UInt8):List dR×List dR:=(l.set i ((l.getD i ([],[])).1,a),l.set i (a,(l.getD i ([],[])).2))
theorem aiz(l:List dR)(h:0<l.length∧l.length≤1000)(i:Nat)(hi:i<l.length)(a:List UInt8):ew 139 [hY l,ah (i:Int),.str a] (.aA [hY (pn l i a).1,hY (pn l i a).2]):=by
 refine eK (.cons (o8 l) (.cons (.int _ _) (.cons (.str _) .nil))) (cN Tryz.f139 (h:=?_));simp only[go_sem,hY];refine(D_ l h _).mono fun v1 G ⟨b,p1,p2,H,K,k⟩=>?_
 subst H;have q1:10≤b:=p1;have u:=k 5 (kV rfl);have d6:=k 6 (kV rfl);have d7:=k 7 (kV rfl);have d8:=k 8 (kV rfl);have d9:=k 9 (kV rfl);simp only[go_sem]at u d6 d7 d8 d9;simp only[go_sem,u];refine(D_ l h _).mono fun v2 e ⟨d,r1,r2,I,L,j⟩=>?_
 subst I;have am:10≤G.next:=aa
 have P:e.get 8=.cells [.ak] 0:=by rw[j 8 aa];exact d8
 have Q:e.get 9=.cells [.ak] 0:=by rw[j 9 aa];exact d9
 have N:e.get 6=.cells [.ak] 0:=by rw[j 6 aa];exact d6
 have O:e.get 7=.cells [.ak] 0:=by rw[j 7 aa];exact d7
 simp only[go_sem,P,Q];obtain⟨c,g⟩:∃c,c=(e.set 8 (.cells [.slice b 0 l.length (.grown 2)] 0)).set 9 (.cells [.slice d 0 l.length (.grown 2)] 0):=⟨_,rfl⟩;rw[←g];have p:∀y,10≤y→c.get y=e.get y:=fun y o=>by rw[g];simp(disch:=omega)only[go_sem,dU]
 have A:cE c b (b+1) (br bR l):=(K.keep (j _ aa) (j _ aa)).keep (p _ aa) (p _ aa);have W:cE c d (d+1) (br bR l):=L.keep (p _ aa) (p _ aa);have w:c.get 8=.cells [.slice b 0 l.length (.grown 2)] 0:=by rw[g];simp only[go_sem]
 have z:c.get 9=.cells [.slice d 0 l.length (.grown 2)] 0:=by rw[g];simp only[go_sem]
 have T:c.get 6=.cells [.ak] 0:=by rw[g];simp only[go_sem,N]
 have U:c.get 7=.cells [.ak] 0:=by rw[g];simp only[go_sem,O]
 have S:i*2+1<(br bR l).length:=by rw[fO bR mT];omega
 have s1:=HM (v:=.str a) A S ⟨rfl,rfl,rfl⟩;have B:=W.other (cs':=(br bR l).set (i*2+1) (.str a)) (b':=b) (g':=b+1) aa aa aa aa;have s2:=HM (o:=i*2) (v:=.str a) B aa ⟨rfl,rfl,rfl⟩;have V:(af.wr c b (b+1) ((br bR l).set (i*2+1) (.str a))).get 9=.cells [.slice d 0 l.length (.grown 2)] 0:=by rw[nq aa aa];exact z
 have R:(0:Int)≤(i:Int)∧(i:Int)<((l.length:Nat):Int):=aa;simp only[go_sem,w,bW R,s1,V,s2];have s:=B.written (((br bR l).set (i*2) (.str a)));have t:=((A.written ((br bR l).set (i*2+1) (.str a)))).other (cs':=(br bR l).set (i*2) (.str a)) (b':=d) (g':=d+1) aa aa aa aa;have Z:c.next=e.next:=by rw[g];rfl
 have n:∀y,y<10→(af.wr (af.wr c b (b+1) ((br bR l).set (i*2+1) (.str a))) d (d+1) ((br bR l).set (i*2) (.str a))).get y=c.get y:=fun y o=>by rw[nq aa aa,nq aa aa]
 have E:=(n 8 ag).trans w;have F:=(n 9 ag).trans z;have C:=(n 6 ag).trans T;have D:=(n 7 ag).trans U;have J:GT c:=by
  refine ga.keep fun y o=>?_
  rw[g];simp(disch:=omega)only[go_sem,dU];rw[j y aa,k y (eF o (kV rfl))];simp(disch:=omega)only[go_sem,dU]
 obtain⟨f,q⟩:∃f,f=af.wr (af.wr c b (b+1) ((br bR l).set (i*2+1) (.str a))) d (d+1) ((br bR l).set (i*2) (.str a)):=⟨_,rfl⟩;have ap:f.next=e.next:=by rw[q];exact Z
 have M:GT f:=J.keep fun y o=>by rw[q];exact n y aa
 rw[←q]at E F C D s t⊢;simp only[go_sem,E,F,C,D];have v:∀x,l[i]? =some x→l.getD i ([],[])=x:=fun x m=>by rw[cy,m];rfl
 have ac:(br bR l).set (i*2+1) (.str a)=br bR (pn l i a).1:=Hr mT l i 1 _ _ ag (fun x m=>by rw[v x m];rfl) hi;have ad:(br bR l).set (i*2) (.str a)=br bR (pn l i a).2:=Hr mT l i 0 _ _ ag (fun x m=>by rw[v x m];rfl) hi;rw[ac]at t;rw[ad]at s;have X:=(s.keep (H':=(f.set 6 (.cells [.slice b 0 l.length (.grown 2)] 0)).set 7 (.cells [.slice d 0 l.length (.grown 2)] 0)) (by simp(disch:=omega)only[go_sem,dU]) (by simp(disch:=omega)only[go_sem,dU]));have Y:=(t.keep (H':=(f.set 6 (.cells [.slice b 0 l.length (.grown 2)] 0)).set 7 (.cells [.slice d 0 l.length (.grown 2)] 0)) (by simp(disch:=omega)only[go_sem,dU]) (by simp(disch:=omega)only[go_sem,dU]));have r:=(M.set (ag:5≤6) (.cells [.slice b 0 l.length (.grown 2)] 0)).set (ag:5≤7) (.cells [.slice d 0 l.length (.grown 2)] 0);exact⟨r,_,.aA (.cons (.agg (.cons (BY mT ag (by simp[pn]) Y r (by show b+1<f.next;omega)) .nil)) (.cons (.agg (.cons (BY mT ag (by simp[pn]) X r (by show d+1<f.next;omega)) .nil)) .nil)),.aA (.cons (o8 _) (.cons (o8 _) .nil)),rfl⟩
def q2(p:fc)(bs:List dR):p7→Prop
 |.jO=>True
 |.wR k=> -1≤k∧k<((p.is.length+p.es.length:Nat):Int)∧bs.all ot=true
 |.cert _ c=>c.az p.n (p.is++ij p.n 0 bs).length p.es.length
theorem apm(p:fc)(h:p.az)(bs:List dR)(c:bs.length=p.n)(b:∀s∈bs,lf s.1∧lf s.2):Dr p.n p.obj (p.is++ij p.n 0 bs) p.es:=by
 have a:=h.n;have e:=h.li;have d:=h.le;have f:=xT p.n 0 bs;refine⟨a,rK a ag h.obj,fun q hq=>?_,fun q hq=>rK a ag (h.es q hq),by rw[aV];omega,aa⟩;rcases hN.1 hq with hq|hq
 ·exact rK a ag (h.is q hq)
 ·exact Ho p.n a 0 bs aa b q hq
theorem arP(p:fc)(h:p.az)(bs:List dR)(a:bs.length=p.n)(e:∀s∈bs,lf s.1∧lf s.2)(f:p7)(d:q2 p bs f):ew 138 [j0 p,hY bs,.agg (cA p.n (.leaf f))] bE:=by
 have o:=h.n;refine eK (.cons (tQ p o) (.cons (o8 bs) (.cons (.agg (nj _ _)) .nil))) (cN Tryz.f138 (h:=?_));rcases f with _|k|⟨b,c⟩
 ·simp only[go_sem,j0,hY,cA];exact cg b_ rfl (.bool _)
 ·obtain⟨t,l,m⟩:=d;have v:=h.li;have u:=h.le;have g:(k< -1)=False:=eq_false aa;have i:aB .i64 ((p.is.length:Int)+(p.es.length:Int))=((p.is.length+p.es.length:Nat):Int):=by rw[aI _ aa];omega
  have j:(k<((p.is.length+p.es.length:Nat):Int))=True:=eq_true l;simp only[go_sem,j0,hY,cA,g,i,j];refine ck (fun H _=>TI bs aa H) b_ ?_;simp only[go_sem,m];exact cg b_ rfl (.bool _)
 ·have q:=apl p h bs a e;have r:=arO (apm p h bs a e) c d;cases b<;>
  ·simp only[go_sem,j0,hY,cA,cond_true,cond_false];refine ck q b_ ?_;simp only[go_sem,lR,iw];refine ck r b_ ?_;simp only[go_sem];exact cg b_ rfl (.bool _)
def jb:b9:=⟨0,0,false,false⟩
def qD(l:List b9)(i:Nat)(a:Rat):List b9:=l.set i ⟨(l.getD i jb).lo,a,(l.getD i jb).hl,true⟩
def qK(l:List b9)(i:Nat)(a:Rat):List b9:=l.set i ⟨a,(l.getD i jb).hi,true,(l.getD i jb).hh⟩
structure aN where
 s:Nat
 v:Nat→Nat
 a:Nat→Rat
 gp:Nat→p7
 bs:Nat→List b9
def aN.cv(t:aN)(n:Nat):List dR:=(t.bs n).map eC
def aN.nd(t:aN)(n:Nat):kX:=if n<t.s then .split (t.v n) (t.a n) (2*n+1) (2*n+2)else .leaf (t.gp n)
def aN.de(t:aN):List kX:=(p_ (2*t.s+1)).map t.nd
structure aN.az (t:aN) (p:fc):Prop where
 s:t.s≤3
 len:∀n,n≤2*t.s→(t.bs n).length=p.n
 q:∀n,n≤2*t.s→∀x∈t.bs n,iE 81 x
 v:∀n,n<t.s→t.v n<p.n
 DH:∀n,n<t.s→bg 81 (t.a n)
 cv:∀n,n<t.s→oX (t.a n) ((t.bs n).getD (t.v n) jb)
 l:∀n,n<t.s→t.bs (2*n+1)=qD (t.bs n) (t.v n) (t.a n)
 r:∀n,n<t.s→t.bs (2*n+2)=qK (t.bs n) (t.v n) (t.a n)
 gp:∀n,t.s≤n→n≤2*t.s→q2 p (t.cv n) (t.gp n)
 rt:∀x∈t.bs 0,iE 9 x∧(x.hl=true→x.hh=true→x.lo<x.hi)
def fP(t:aN)(n:Nat)(b:Rat):List V:=[bu bR (t.cv 0),.str (bf b),bu (cA n) t.de]
theorem asm(l:List b9)(i:Nat)(a:Rat)(hi:i<l.length):(qD l i a).map eC=(pn (l.map eC) i (bf a)).1:=by
 unfold qD pn;rw[List.map_set,cy,cy,iW,cx hi];rfl
theorem aso(l:List b9)(i:Nat)(a:Rat)(hi:i<l.length):(qK l i a).map eC=(pn (l.map eC) i (bf a)).2:=by
 unfold qK pn;rw[List.map_set,cy,cy,iW,cx hi];rfl
def kH(t:aN)(a:Nat):Nat→Nat→List V
 |0,_=>[]
 |k+1,j=>(if j≤a then bu bR (t.cv j)else .ak)::kH t a k (j+1)
def jC(a:Nat):Nat→Nat→List V
 |0,_=>[]
 |k+1,j=>.bool (decide (j≤a))::jC a k (j+1)
theorem rV(b:bg a w)(c:a≤81):(bf w).length≤500:=by have:=CY (b.mono aa);omega
theorem an3{x:b9}(h:iE 81 x):lf (eC x).1∧lf (eC x).2:=by
 have b:∀q:Rat,bg 81 q→lf (bf q):=fun q a=>.inr ⟨by rw[pE,nC],by rw[nC];exact a,rV a ag⟩
 show lf (if x.hl=true then _ else _)∧lf (if x.hh=true then _ else _);exact⟨by split;exact b _ h.1;exact .inl rfl,by split;exact b _ h.2;exact .inl rfl⟩
theorem arL{x:b9}(h:x.hl=true→x.hh=true→x.lo<x.hi):lM (eC x)=true:=by
 have b:∀q:Rat,nw (bf q)=true:=fun q=>by unfold nw;rw[pE];simp
 have a:nw []=true:=rfl;obtain⟨lo,hi,l,u⟩:=x;unfold lM eC;cases l<;>cases u<;>simp[b,a,pV,nC];have:=zY (h rfl rfl);simp only at this;omega
theorem Sf(n:Nat)(l:List b9)(hl:l.length=n)(h:∀x∈l,x.hl=true→x.hh=true→x.lo<x.hi):tc n (l.map eC)=true:=by
 unfold tc;rw[cC,List.all_eq_true];refine⟨by rw[iu,hl];simp,fun s a=>?_⟩;obtain⟨x,b,rfl⟩:=kT.1 a;exact arL (h x b)
def u_(l:List dR):List V:=[bu bR l]
theorem gC(t:aN):t.de.length=2*t.s+1:=by simp[aN.de]
theorem QY(t:aN):∀n j,rep [V.ak] n=kH t 0 n (j+1)
 |0,_=>rfl
 |n+1,j=>by rw[Cm,QY t n (j+1),kH,aj aa];rfl
theorem He:∀n j,rep [V.bool false] n=jC 0 n (j+1)
 |0,_=>rfl
 |n+1,j=>by rw[Cm,He n (j+1),jC,a_ aa];rfl
theorem AJ(t:aN)(a:Nat):∀k j,(kH t a k j).length=k
 |0,_=>rfl
 |k+1,j=>by rw[kH,cV,AJ]
theorem yP(t:aN)(a:Nat):∀k j i,(kH t a k j)[i]? =if i<k then some (if j+i≤a then bu bR (t.cv (j+i))else .ak)else none
 |0,_,_=>by rw[kH,aj aa];rfl
 |k+1,j,0=>by rw[ao (m7 k)];rfl
 |k+1,j,i+1=>by
  rw[kH,List.getElem?_cons_succ,yP t a k (j+1) i,(aa:j+1+i=j+(i+1))];simp only[Nat.add_lt_add_iff_right]
theorem xR(a:Nat):∀k j,(jC a k j).length=k
 |0,_=>rfl
 |k+1,j=>by rw[jC,cV,xR]
theorem vS(a:Nat):∀k j i,(jC a k j)[i]? =if i<k then some (.bool (decide (j+i≤a)))else none
 |0,_,_=>by rw[jC,aj aa];rfl
 |k+1,j,0=>by rw[ao (m7 k)];rfl
 |k+1,j,i+1=>by
  rw[jC,List.getElem?_cons_succ,vS a k (j+1) i,(aa:j+1+i=j+(i+1))];simp only[Nat.add_lt_add_iff_right]
theorem TS(t:aN)(m k:Nat)(h:2*m+2<k):((kH t (2*m) k 0).set (2*m+1) (bu bR (t.cv (2*m+1)))).set (2*m+2) (bu bR (t.cv (2*m+2)))=kH t (2*(m+1)) k 0:=by
 refine uQ fun i=>?_
 rw[r7,r7,gE,AJ,yP,yP];simp only[eJ];by_cases a:i=2*m+2
 ·subst a;rw[ao rfl,ao h,ao h,ao aa]
 ·by_cases b:i=2*m+1
  ·subst b;rw[aj aa,ao rfl,ao aa,ao aa,ao aa]
  ·rw[aj (fun e=>a e.symm),aj (fun e=>b e.symm)];have e:(if i≤2*m then bu bR (t.cv i)else V.ak)=if i≤2*(m+1)then bu bR (t.cv i)else V.ak:=by
    by_cases c:i≤2*m
    ·rw[ao c,ao aa]
    ·rw[aj c,aj aa]
   rw[e]
theorem QK(m k:Nat)(h:2*m+2<k):((jC (2*m) k 0).set (2*m+1) bE).set (2*m+2) bE=jC (2*(m+1)) k 0:=by
 refine uQ fun i=>?_
 rw[r7,r7,gE,xR,vS,vS];simp only[eJ];by_cases a:i=2*m+2
 ·subst a;rw[ao rfl,ao h,ao h,bm aa]
 ·by_cases b:i=2*m+1
  ·subst b;rw[aj aa,ao rfl,ao aa,ao aa,bm aa]
  ·rw[aj (fun e=>a e.symm),aj (fun e=>b e.symm)];rw[show decide (i≤2*m)=decide (i≤2*(m+1))from decide_eq_decide.2 aa]
theorem xF:∀ {a:List V}{i:Nat}{v:V},cO a i=some v→cj (ej a i) 1=some [v]
 |[],0,_,h=>by cases h
 |[],_+1,_,h=>by cases h
 |c::a,0,v,h=>by rw[amo]at h;cases h;rw[dA,Pw,zl];rfl
 |c::a,i+1,v,h=>by rw[Pn]at h;rw[Pe];exact xF h
theorem JU(t:aN)(a:Nat):∀k j,j+k≤a+1→kH t a k j=br u_ ((tB j k).map t.cv)
 |0,_,_=>rfl
 |k+1,j,h=>by rw[kH,ao aa,JU t a k (j+1) aa];rfl
def aN.rq(t:aN):List (List dR):=(tB 0 (2*t.s+1)).map t.cv
theorem agY(p:fc)(h:p.az)(t:aN)(j:t.az p)(b:Rat)(hb:bg 81 b):ew 79 [j0 p,.agg (fP t p.n b)] (.aA [bu u_ t.rq,bE]):=by
 have hn:=h.n;have hs:=j.s;have l0:(t.cv 0).length=p.n:=by rw[aN.cv,iu];exact j.len 0 aa
 have I:=arN p h (t.cv 0) (fun b0 hs=>by obtain⟨x,E,rfl⟩:=kT.1 hs;exact asp (j.rt x E).1) aa;rw[show tc p.n (t.cv 0)=true from Sf _ _ (j.len 0 aa) fun x E=>(j.rt x E).2]at I;have hr:=wj (bf b) (rV hb ag);rw[pE,Option.isSome_some]at hr;have c1:((t.de.length:Int)<1)=False:=eq_false (by rw[gC];omega);have c2:((256:Int)<(t.de.length:Int))=False:=eq_false (by rw[gC];omega);have cb:=KA (t.cv 0) aa;refine eK (.cons (tQ p hn) (.cons (.agg (.cons (ie o9 _) (.cons (.str _) (.cons (ie (nj _) _) .nil)))) .nil)) (cN Tryz.f79 (h:=?_));simp only[go_sem,j0,fP];refine ck I b_ ?_;simp only[go_sem];refine ck hr b_ ?_;have m1:∀(k:Nat) (T:List V),k=24∨k=1→l7 k T [ah (t.de.length:Int),ah (t.de.length:Int)]=some (.new (rep T (2*t.s+1)) (.slice (2*t.s+1) (2*t.s+1))):=fun k T u=>by
  rw[iI ⟨aa,by rw[gC];rcases u with rfl|rfl<;>omega,by rw[gC];omega⟩,bH,gC]
 simp only[go_sem,c1,c2,m1 24 _ (.inl rfl),m1 1 _ (.inr rfl)];refine ck cb b_ ?_;have bi:(0:Int)≤0∧(0:Int)<((2*t.s+1:Nat):Int):=aa;simp only[go_sem,hY,bW bi,nY];rw[QY t _ 0,He _ 0,show bu bR (t.cv 0)::kH t 0 (2*t.s) (0+1)=kH t 0 (2*t.s+1) 0 from(by rw[kH,ao (aF 0)]),show V.bool true::jC 0 (2*t.s) (0+1)=jC 0 (2*t.s+1) 0 from rfl]
 have W:∀d:af,en 7 ((cU.push (.cells [e9 p.n,ah p.n,eD p.obj,cB p.n p.is,cB p.n p.es] 0)).push (.cells (fP t p.n b) 0)) d→GT d∧d.get 5=.cells [e9 p.n,ah p.n,eD p.obj,cB p.n p.is,cB p.n p.es] 0∧d.get 6=.cells (fP t p.n b) 0:=fun d hh=>
  ⟨hh.gt b_,by rw[hh.1 5 ag];simp only[go_sem],by rw[hh.1 6 ag];simp only[go_sem]⟩
 refine each (2*t.s+1) [2,3,6,7,49,50] 7 (fun m _ H=>H.get 7=.cells (kH t (2*min m t.s) (2*t.s+1) 0) 0∧H.get 8=.cells (jC (2*min m t.s) (2*t.s+1) 0) 0∧9≤H.next) ?_ ?_ aa ag ?_ (fun _ _ _ _ _ _ h=>h) ?_ ?_ ?_
 iterate 2 simp only[go_sem,gC]
 ·simp only[go_sem];omega
 ·refine⟨?_,?_,?_⟩
  iterate 2 simp only[go_sem,Nat.zero_min,fy]
  ·simp only[go_sem];omega
 ·intro m ar d F u hh hi ⟨o,w,h9⟩;simp only[go_sem]at u;obtain⟨g,L,S⟩:=W d ⟨fun y J=>(hh.1 y J).trans (by simp(disch:=omega)only[go_sem,dU,fP]),hh.2⟩;have a':t.de[m]? =some (t.nd m):=by rw[aN.de,iW,tw F];rfl
  have G:=gi (n5 p.n) a';have bj:m<t.de.length:=by rw[gC];exact F
  by_cases z:m<t.s
  ·rw[m4 (hO z)]at o w;rw[show t.nd m=.split (t.v m) (t.a m) (2*m+1) (2*m+2)from ao z]at G;have O:=P7 p.n (.split (t.v m) (t.a m) (2*m+1) (2*m+2));have bo:=j.v m z;obtain⟨x,E⟩:∃x,x=(t.bs m).getD (t.v m) jb:=⟨_,rfl⟩;have a7:(t.bs m).length=p.n:=j.len m aa;have ae:(t.bs m)[t.v m]? =some x:=by rw[E,cy,cx aa];rfl
   have M:=j.q m aa x (eN ae);have r2:=gi (f:=bR) mT (show(t.cv m)[t.v m]? =some (eC x) by rw[aN.cv,iW,ae];rfl);have X:=j.cv m z;rw[←E]at X;have aw:=Tw (t.a m) x ((j.DH m z).mono aa) ⟨M.1.mono aa,M.2.mono aa⟩ X ⟨rV (j.DH m z) ag,rV M.1 ag,rV M.2 ag⟩;have N:(t.cv m).length=p.n:=by rw[aN.cv,iu];exact a7
   have I:=aiz (t.cv m) aa (t.v m) aa (bf (t.a m));rw[show(pn (t.cv m) (t.v m) (bf (t.a m))).1=t.cv (2*m+1) by rw[aN.cv,aN.cv,j.l m z,asm _ _ _ aa],show(pn (t.cv m) (t.v m) (bf (t.a m))).2=t.cv (2*m+2) by rw[aN.cv,aN.cv,j.r m z,aso _ _ _ aa]]at I;have K:∀i,i≤2*t.s→cO (jC (2*m) (2*t.s+1) 0) i=some (.bool (decide (i≤2*m))):=fun i h=>by rw[gO,vS,ao aa,eJ]
   have P:cO (kH t (2*m) (2*t.s+1) 0) m=some (bu bR (t.cv m)):=by rw[gO,yP,ao F,ao aa,eJ]
   have U:((m:Int)<((2*m+1:Nat):Int))=True∧((m:Int)<((2*m+2:Nat):Int))=True∧(((2*m+1:Nat):Int)<(t.de.length:Int))=True∧(((2*m+2:Nat):Int)<(t.de.length:Int))=True∧(((2*m+1:Nat):Int)=((2*m+2:Nat):Int))=False∧((t.v m:Int)<0)=False∧((t.v m:Int)<(p.n:Int))=True:=by
    rw[gC];exact⟨eq_true aa,eq_true aa,eq_true aa,eq_true aa,eq_false aa,eq_false aa,eq_true aa⟩
   have R:decide (m≤2*m)=true∧decide (2*m+1≤2*m)=false∧decide (2*m+2≤2*m)=false:=⟨bm aa,a_ aa,a_ aa⟩;have ab:c3 (e9 p.n)=some (.val (ah (p.n:Int))):=rfl;have A:=bG (aa:5<d.next)
   have B:=bG (aa:6<d.next)
   have C:=bG (aa:7<d.next)
   have D:=bG (aa:8<d.next)
   have w1:cz [V.bool true] (jC (2*m) (2*t.s+1) 0) (2*m+1)=some _:=fo (by rw[xR];omega);have w2:cz [V.bool true] ((jC (2*m) (2*t.s+1) 0).set (2*m+1) bE) (2*m+2)=some _:=fo (by rw[gE,xR];omega);have w3:cz [bu bR (t.cv (2*m+1))] (kH t (2*m) (2*t.s+1) 0) (2*m+1)=some _:=fo (by rw[AJ];omega);have be:cz [bu bR (t.cv (2*m+2))] ((kH t (2*m) (2*t.s+1) 0).set (2*m+1) (bu bR (t.cv (2*m+1)))) (2*m+2)=some _:=fo (by rw[gE,AJ];omega);simp(disch:=omega)only[go_sem,u,hi,eU,G,cA,o,w,bW,K,A,B,C,D,R];refine ck O b_ ?_;simp(disch:=omega)only[go_sem,u,o,w,L,S,fP,bW,eU,K,P,r2,ab,A,B,C,D,U,R,N];refine ck aw b_ ?_;simp(disch:=omega)only[go_sem,u,o,w,L,S,fP,bW,eU,K,P,r2,ab,A,B,C,D,U,R,N,w1,w2];have Q:=xF P;have a5:hY (t.cv (2*m+1))=.agg [bu bR (t.cv (2*m+1))]∧hY (t.cv (2*m+2))=.agg [bu bR (t.cv (2*m+2))]:=⟨rfl,rfl⟩;simp(disch:=omega)only[go_sem,u,o,w,Q,A,B,C,D];refine ck I b_ ?_;simp(disch:=omega)only[go_sem,u,o,w,bW,A,B,C,D,a5,w3,be,hi,m4,show m+1≤t.s from z];rw[TS t m _ aa,QK m _ aa];exact⟨kb,rfl,rfl,aa⟩
  ·have Y:t.s≤m:=aa;rw[Nat.min_eq_right Y]at o w;rw[show t.nd m=.leaf (t.gp m)from aj z]at G;have O:=P7 p.n (.leaf (t.gp m));have N:(t.cv m).length=p.n:=by rw[aN.cv,iu];exact j.len m aa
   have ap:=arP p h (t.cv m) N (fun y J=>by obtain⟨x,E,rfl⟩:=kT.1 J;exact an3 (j.q m aa x E)) (t.gp m) (j.gp m Y aa);have K:cO (jC (2*t.s) (2*t.s+1) 0) m=some bE:=by rw[gO,vS,ao F,bm aa]
   have Q:=xF (show cO (kH t (2*t.s) (2*t.s+1) 0) m=some (bu bR (t.cv m)) by rw[gO,yP,ao F,ao aa,eJ]);have A:=bG (aa:5<d.next)
   have B:=bG (aa:6<d.next)
   have C:=bG (aa:7<d.next)
   have D:=bG (aa:8<d.next)
   have a8:min (m+1) t.s=t.s:=Nat.min_eq_right aa;obtain⟨f,hf⟩:∃f,f=t.gp m:=⟨_,rfl⟩;rw[←hf]at G O ap;rcases f with _|k|⟨c,e⟩
   all_goals try cases c
   all_goals
    simp(disch:=omega)only[go_sem,u,hi,eU,G,cA,o,w,bW,K,A,B,C,D,cond_true,cond_false];refine ck O b_ ?_;simp(disch:=omega)only[go_sem,u,o,w,L,bW,Q,A,B,C,D];refine ck ap b_ ?_;simp only[go_sem,u,o,w,A,B,C,D,hi,a8];refine⟨kb,?_⟩;omega
 ·intro ar d u hh ⟨o,w,h9⟩;simp only[go_sem]at u;obtain⟨g,L,S⟩:=W d ⟨fun y J=>(hh.1 y J).trans (by simp(disch:=omega)only[go_sem,dU,fP]),hh.2⟩;rw[Nat.min_eq_right aa,JU t _ _ _ aa]at o;change d.get 7=.cells (br u_ t.rq) 0 at o;have Z:t.rq.length=2*t.s+1:=by unfold aN.rq;rw[iu,List.length_range']
  simp only[go_sem,u];refine⟨g,_,.aA (.cons (.row (m:=2*t.s+1) ?_ aa ?_ (cD.refl (br u_ t.rq))) (.cons (.same _) .nil)),.aA (.cons (.row _ (Bp u_ (fun ba=>.cons (ie o9 ba) .nil) t.rq)) (.cons (.bool _) .nil)),?_⟩
  ·rw[fI o,dA];exact iU (by rw[fO u_ (k:=1) fun _=>rfl,Z,ef])
  ·rw[af.sK,lG,aj aa,aj aa,aj aa]
  ·unfold bu;rw[Z]
theorem NV(t:aN)(n:Nat)(b:Rat):bX (fP t n b):=.cons (ie o9 _) (.cons (.str _) (.cons (ie (nj _) _) .nil))
theorem vF:∀ {a:List V}{n k:Nat}{v:V}{l:List V},cj (ej a n) (k+1)=some (v::l)→cO a n=some v
 |[],0,_,_,_,h=>by cases h
 |[],_+1,_,_,_,h=>by cases h
 |c::a,0,k,v,l,h=>by
  rw[dA,Pw]at h;cases e:cj a k with
  |none=>rw[e]at h;cases h
  |some r=>rw[e]at h;cases h;rfl
 |c::a,n+1,k,v,l,h=>by rw[Pe]at h;rw[Pn];exact vF h
theorem gh(d:bX b)(h:c5 a b (af.zero 5) fun e c=>∃v,bO c (af.zero c.next) e v∧bA v∧v=r):aS a b r:=pI (R:=fun v=>v=r) d h
theorem fG{v:V}(h:v=r)(a:bA r):∃u,bO c (af.zero c.next) v u∧bA u∧u=r:=⟨v,.same v,by rw[h];exact a,h⟩
def jc(n:Nat)(p:List ax):List V:=gf n p++gf n []
def pO(n:Nat)(p:List ax):V:=.agg (jc n p)
theorem vo(n:Nat)(p:List ax):bX (gf n p):=.cons (.int _ _) (.cons (tT _) .nil)
theorem vq(n:Nat)(p:List ax):bX (jc n p):=lF (vo n p) (vo n [])
theorem ams(n:Nat)(p:List ax):aS 317 [gD n p] (pO n p):=by
 refine gh (.cons (.agg (vo n p)) .nil) (cN Tryz.f317 (h:=?_));simp only[go_sem,gD,gf];exact⟨_,.agg (.cons (.same _) (.cons (.same _) (.cons (.same _) (.cons .fL .nil)))),.agg (vq n p),rfl⟩
structure wL (n:Nat) (p:List ax):Prop where
 ok:iX n p
 hn:n=1∨n=2
theorem wL.wr(h:wL a l):aS 49 [gD a l] (.agg [ah a,eD l]):=by
 have:=h.hn;have hl:=h.ok.len;exact Io l a 100 aa (fun c b=>(h.ok.t c b).len) (fun c b=>(h.ok.t c b).q) ag aa
theorem Sy(n:Nat)(p:List ax)(h:wL n p):aS 263 [pO n p] (jR n p):=by
 have a:aS 49 [gD n []] (.agg [ah n,eD []]):=wL.wr ⟨Cg n,h.hn⟩;refine gh (.cons (.agg (vq n p)) .nil) (cN Tryz.f263 (h:=?_));simp only[go_sem,pO,jc,gf];refine use h.wr ?_;simp only[go_sem];refine use a ?_;simp only[go_sem,mL];exact fG rfl (.agg (qo n p))
theorem amY(w:Rat)(b:bg 100 w):aS 319 [bz w,bz 0,ah 1] (s7 (bf w)):=by
 refine gh (.cons (fT _) (.cons (fT _) (.cons (.int _ _) .nil))) (cN Tryz.f319 (h:=?_));have a:=xQ w 0 b (Cj (k:=1) ag) ag;rw[show w+0=w by grind]at a;simp only[go_sem,bz,bk];refine use a ?_;simp only[go_sem,bz,bk];refine use (s9 w b ag) ?_;simp only[go_sem];exact fG rfl (.agg (.cons (.str _) (.cons (.str _) (.cons (.int _ _) .nil))))
def kr(n:Nat)(s:mu):List V:=bk (s.w:Rat)++(bk 0++jc n s.r)
theorem xV(n:Nat)(s:mu):(kr n s).length=12:=rfl
theorem FI(n:Nat)(s:mu):bX (kr n s):=lF (vp _) (lF (vp _) (vq n s.r))
theorem asu(n:Nat)(a:n=1∨n=2)(s:mu)(h:s.az n):aS 262 [ah 1,.agg (kr n s)] (.agg (iA n s)):=by
 refine gh (.cons (.int _ _) (.cons (.agg (FI n s)) .nil)) (cN Tryz.f262 (h:=?_));simp only[go_sem,kr,bk,jc,gf];refine use (amY _ (G0 h.w)) ?_;simp only[go_sem];refine use (Sy n s.r ⟨h.r,a⟩) ?_;simp only[go_sem,s7,jR,eR,bS,mL];exact fG rfl (.agg (xk n s))
theorem ao8(e:List Nat)(n:Nat)(i:n=1∨n=2)(hl:e.length=n)(f:e.sum≤24):aS 367 [bI e] (ah (e.sum:Nat)):=by
 refine gh (.cons (ni e) .nil) (cN Tryz.f367 (h:=?_));have g:((6:Int)<(e.length:Int))=False:=eq_false aa;simp only[go_sem,g];rcases i with rfl|rfl
 ·obtain⟨a,rfl⟩:∃a,e=[a]:=by
   match e,hl with
   |[a],_=>exact⟨a,rfl⟩
  simp only[List.sum_cons,List.sum_nil,cG]at f;refine qV 2 ?_;have c:((a:Int)<0)=False:=eq_false aa;have d:((24:Int)<(a:Int))=False:=eq_false aa;simp(disch:=omega)only[go_sem,kE,bI,ct,cV,kS,List.map_cons,List.map_nil,k7,aI,c,d,Int.cast_ofNat_Int,Int.reduceAdd,Int.reduceSub];exact fG aE (.int _ _)
 ·obtain⟨a,b,rfl⟩:∃a b,e=[a,b]:=by
   match e,hl with
   |[a,b],_=>exact⟨a,b,rfl⟩
  simp only[List.sum_cons,List.sum_nil,cG]at f;refine qV 3 ?_;have c:((a:Int)<0)=False:=eq_false aa;have d:((24:Int)<(a:Int))=False:=eq_false aa;have d3:((b:Int)<0)=False:=eq_false aa;have h:((24:Int)-(0+(a:Int))<(b:Int))=False:=eq_false aa;simp(disch:=omega)only[go_sem,kE,bI,ct,cV,kS,List.map_cons,List.map_nil,k7,aI,c,d,d3,h,Int.cast_ofNat_Int,Int.reduceAdd,Int.reduceSub];exact fG aE (.int _ _)
theorem Rf(e:List Nat)(n:Nat)(c:n=1∨n=2)(hl:e.length=n)(d:e.sum≤24):aS 316 [bI e] bE:=by
 refine gh (.cons (ni e) .nil) (cN Tryz.f316 (h:=?_));have a:((6:Int)<(e.length:Int))=False:=eq_false aa;have b:(((e.sum:Nat):Int)<0)=False:=eq_false aa;simp only[go_sem,a];refine use (ao8 e n c hl d) ?_;simp only[go_sem,b];exact fG rfl (.bool _)
theorem N7(n:Nat)(p:List ax)(h:wL n p):aS 318 [gD n p] bE:=by
 have hl:=h.ok.len;refine gh (.cons (.agg (vo n p)) .nil) (cN Tryz.f318 (h:=?_));have b:((4096:Int)<(p.length:Int))=False:=eq_false aa;cases p with
 |nil=>
  simp only[go_sem,gD,gf,kS,Int.cast_ofNat_Int];exact fG rfl (.bool _)
 |cons s p=>
  have a:=h.ok.t s aE;have c:(((s::p).length:Int)=0)=False:=eq_false (by rw[cV];omega);have e:=HW (l:=s::p) (i:=0) rfl;have hi:(0:Int)≤0∧(0:Int)<(((s::p).length:Nat):Int):=by rw[cV];omega
  have d:cO (di (s::p)) 4=some (bI s.2):=rfl;simp only[go_sem,gD,gf,b,c,pq hi,d];refine use (Rf s.2 n h.hn a.len a.sum) ?_;simp only[go_sem];exact fG rfl (.bool _)
theorem N6(n:Nat)(p:List ax)(h:wL n p):aS 261 [pO n p] bE:=by
 refine gh (.cons (.agg (vq n p)) .nil) (cN Tryz.f261 (h:=?_));simp only[go_sem,pO,jc,gf];refine use (N7 n p h) ?_;simp only[go_sem];refine use (N7 n [] ⟨Cg n,h.hn⟩) ?_;simp only[go_sem];exact fG rfl (.bool _)
theorem anU(q:Rat)(hl:(bf q).length≤500):aS 74 [.str (bf q)] (bz q):=by
 refine gh (.cons (.str _) .nil) (cN Tryz.f74 (h:=?_));have h:=zA (bf q) hl;rw[G3]at h;simp only[go_sem];refine use h ?_;simp only[go_sem,sY,bz,bk];exact fG rfl (fT q)
theorem uC{b:Fr}{v:V}(e:a∉d)(h:kg d b m):kg d (put b (some a) v) m:=
 uB.2 fun t c=>by rw[qJ (by rintro rfl;exact e c)];exact uB.1 h t c
variable{M:aP}{F:X→Fr→af→Prop}
theorem Nt{k n:Nat}{T:List c6}(f:Nat)(g:List Nat)(B:Nat)(E:Nat→af→Prop)
 (hi:rd a m=ah 0) (hl:f<1000000000) (z:a∉g∧u∉g∧L∉g∧a≠u∧a≠L) (y:B≤c.next) (v:E 0 c)
 (P:∀(b:Nat) e d,kg g e m→en B c d→rd a e=ah (b:Int)→∀K:Fr→af→Prop,(∀i,kg g i m→rd a i=ah (b:Int)→rd h i=.bool (decide (b<f))→K i d)→jY eO 5 T K e d)
 (step:∀(b:Nat) e d,b<f→kg g e m→en B c d→rd a e=ah (b:Int)→E b d→bw M (iY n (wM g B a b m c (fun _=>E (b+1)) (iY k F))) e d)
 (w:∀e d,kg g e m→en B c d→E f d→F .norm e d):
 bw (.loop (.seq (.seq (.bP T) (.cond (rd h) .skip (.exit k))) (.seq (.block n M) (.bP [ex u (mv (rd a)),ex L (bi .add (rd u) (kc (ah 1))),ex a (bN (rd L))])))) (iY k F) m c:=by
 obtain⟨A,C,D,Q,R⟩:=z;refine bK (fun r e d=>∃b,r=f-b∧b≤f∧kg g e m∧en B c d∧rd a e=ah (b:Int)∧E b d) f ⟨0,rfl,b4 _,uB.2 fun _ _=>rfl,.refl y,hi,v⟩ ?_;rintro r e d ⟨b,rfl,S,G,hh,H,s⟩;simp only[go_sem];refine P b e d G hh H _ fun i t I l=>?_
 by_cases j:b<f
 ·rw[bm j]at l;simp only[go_sem,l];refine Go.au.wp_mono M (fun x o p=>DN (fun x o p q=>?_) x o p) (step b i d j t hh I s);cases x with
  |norm=>
   obtain⟨N,n,bB,O⟩:=q;have J:aB .i64 ((b:Int)+1)=((b+1:Nat):Int):=by rw[aI _ aa];omega
   show bw (.bP _) _ o p;simp only[go_sem,bB,J];exact⟨f-(b+1),aa,b+1,rfl,j,uC A (uC D (uC C N)),n,by simp only[go_sem],O⟩
  |ret=>exact q
  |exit L=>exact q
 ·rw[a_ j]at l;have L:b=f:=aa;subst L;simp only[go_sem,l];exact w _ _ t hh s
def jD(L:List (List V)):List V:=br id L
theorem Cx{k:Nat}:∀(L:List (List V)) (i:Nat) (x:List V),(∀r∈L,r.length=k)→x.length=k→i<L.length→cz x (jD L) (i*k)=some (jD (L.set i x))
 |[],_,_,_,_,h=>(m5 _ h).elim
 |r::L,0,x,b,d,_=>by
  have c:=b r aE;rw[jg,k8,ao (by show 0+x.length≤(r++jD L).length;rw[aV];omega)];show some ([]++x++(r++jD L).drop (0+x.length))=some (x++jD L);rw[eJ,d,←c,List.drop_left];rfl
 |r::L,i+1,x,b,d,hi=>by
  have c:=b r aE;have a:=Cx L i x (fun s g=>b s (by simp[g])) d (Nat.lt_of_succ_lt_succ hi);rw[k8]at a⊢;by_cases f:i*k+x.length≤(jD L).length
  ·rw[ao f]at a;have e:(i+1)*k=r.length+i*k:=by rw[oR,c];omega
   rw[ao (by show(i+1)*k+x.length≤(r++jD L).length;rw[aV,e];omega)];show some ((r++jD L).take ((i+1)*k)++x++(r++jD L).drop ((i+1)*k+x.length))=some (r++jD (L.set i x));rw[e,List.take_length_add_append,mo,List.drop_length_add_append,←Option.some.inj a];simp[fl]
  ·rw[aj f]at a;cases a
theorem Gj:∀ {a:List V}{n k j:Nat}{v:V}{l:List V},cj (ej a n) k=some l→cO l j=some v→cO a (n+j)=some v:=fun{a n k j v l} h e=>by
 rw[kj,eZ]at h;rw[gO]at e⊢;split at h
 ·cases h;rw[List.getElem?_take,uR]at e;split at e
  ·exact e
  ·cases e
 ·cases h
theorem Qr{k:Nat}(h:k≤4):bg 3 (nM k (4:Nat)):=by
 rw[uZ];obtain⟨a,b⟩:=mk_le (k:Int) (m:=4) ag;exact⟨aa,aa⟩
theorem Sq(k:Nat):nM (k:Int) (4:Nat)=(k:Rat)/4:=by
 rw[Rat.divInt_eq_div];rfl
theorem Tx(l:List Int)(hl:l.length≤400)(A:ir l)(s:b9)(a b:Nat)(K:a+b≤1000)(d:bg a s.lo)(e:bg b s.hi)(u:s.hl=true→s.hh=true→s.lo<s.hi):lC l 77 [.agg (eB s)] fun v=>∃q:Rat,bg (a+b+7) q∧oX q s∧v=bz q:=by
 refine n8 (.cons (.agg (NT s)) .nil) fun i hi=>cN Tryz.f77 (h:=?_)
 obtain⟨lo,c,m,g⟩:=s;change bg a lo at d;change bg b c at e;change m=true→g=true→lo<c at u;simp only[go_sem,eB,bk,eL,eE];refine eV (k_ l hl A 3 ag) ag hi ?_ ?_
 ·simp only[go_sem,mI,c4]
 rintro _ y ⟨k,L,rfl⟩ p;simp(disch:=omega)only[go_sem,aI];refine use (tV _ aa) ?_;simp only[go_sem];refine use (tV _ aa) ?_;simp only[go_sem];refine use (xp (1+(k:Int)) 4 aa (x7 aa) (x7 aa)) ?_;have z:nM (1+(k:Int)) 4=((1+k:Nat):Rat)/4:=by rw[←Sq];congr 1
 have f:bg 3 (nM (1+(k:Int)) 4):=by have h:=Qr (k:=1+k) aa;rwa[(aa:((1+k:Nat):Int)=1+(k:Int))]at h
 have H:0<nM (1+(k:Int)) 4∧nM (1+(k:Int)) 4<1:=by
  rw[z];have:k=0∨k=1∨k=2:=aa;rcases this with rfl|rfl|rfl<;>decide+kernel
 have I:bg 3 (1-nM (1+(k:Int)) 4):=by
  have h:=Qr (k:=3-k) aa;rwa[Sq,show((3-k:Nat):Rat)/4=1-((1+k:Nat):Rat)/4 by
   have:k=0∨k=1∨k=2:=aa;rcases this with rfl|rfl|rfl<;>decide+kernel,←z]at h
 generalize nM (1+(k:Int)) 4=w at*
 have n:∀(q:Rat) (t:af) (o:cR) (j:Nat),j≤l.length→o=.cells (cJ l j) 0→bg (a+b+7) q→oX q ⟨lo,c,m,g⟩→∃x v,x≤l.length∧o=.cells (cJ l x) 0∧bO t (af.one 5 t.next (cJ l x)) (bz q) v∧bA v∧∃q:Rat,bg (a+b+7) q∧oX q ⟨lo,c,m,g⟩∧v=bz q:=fun q t o j F D B C=>⟨j,_,F,D,.same _,fT _,q,B,C,rfl⟩
 have r:∀ {P:Prop},false=true→P:=fun h=>by cases h
 cases m
 ·cases g
  ·simp only[go_sem,c4,lZ,lS,l6,m8,jj,dA,mN,lD];refine eV (Cb l hl A) ag p ?_ ?_
   ·simp only[go_sem,c4]
   rintro _ J ⟨q,G,rfl⟩ E;simp only[go_sem,c4,lZ,lS,l6,m8,jj,dA,mN,lD];exact n q _ _ J E rfl (G.mono aa) ⟨r,r⟩
  ·simp only[go_sem,c4,lZ,lS,l6,m8,jj,dA,mN,lD];refine use (Hv c w e f aa) ?_;simp only[go_sem,c4,lZ,lS,l6,m8,jj,dA,mN,lD];exact n _ _ _ y p rfl ((e.sub f).mono aa) ⟨r,fun _=>by show c-w<c;grind⟩
 ·cases g
  ·simp only[go_sem,c4,lZ,lS,l6,m8,jj,dA,mN,lD];refine use (xQ lo w d f aa) ?_;simp only[go_sem,c4,lZ,lS,l6,m8,jj,dA,mN,lD];exact n _ _ _ y p rfl ((d.add f).mono aa) ⟨fun _=>by show lo<lo+w;grind,r⟩
  ·have u:=u rfl rfl;simp only[go_sem,c4,lZ,lS,l6,m8,jj,dA,mN,lD];refine use (Hv c lo e d aa) ?_;simp only[go_sem,c4,lZ,lS,l6,m8,jj,dA,mN,lD];refine use (Q6 w (c-lo) f (e.sub d) aa) ?_;simp only[go_sem,c4,lZ,lS,l6,m8,jj,dA,mN,lD];refine use (xQ lo (w*(c-lo)) d (f.mul (e.sub d)) aa) ?_;simp only[go_sem,c4,lZ,lS,l6,m8,jj,dA,mN,lD];have M:0<w*(c-lo):=Rat.mul_pos H.1 (by show 0<c-lo;grind);have N:0<(1-w)*(c-lo):=Rat.mul_pos (by grind) (by show 0<c-lo;grind);refine n _ _ _ y p rfl ?_ ⟨fun _=>by show lo<lo+w*(c-lo);grind,fun _=>by show lo+w*(c-lo)<c;grind⟩;have:=(I.mul d).add (f.mul e);rw[show(1-w)*lo+w*c=lo+w*(c-lo) by grind]at this;exact this.mono aa
theorem ya{n:Nat}{d g:List V}{v:V}(i:cE c a h b)(s:cz g b u=some d)(p:aZ v=true)(m:cellsOf v=g)(q:bn (cn g) n=true)(r:cK g=true):oI n [.ptr a u,v] c=some (V.undef,af.wr c a h d):=by
 obtain⟨f,k,_⟩:=i.bD;obtain⟨e,o⟩:∃e,h=e+1:=⟨h-1,by have:=i.ne;omega⟩;have l:=i.row;show aQ (and (aZ v) (bn (cn (cellsOf v)) n)) (an (c.e3 a u (cellsOf v)) fun c=>some (V.undef,c))=_;rw[p,m,q];unfold af.e3;rw[l];show aQ true (an (aQ (cK g) (an (cz g b u) fun d=>Nat.rec (motive:=fun _=>Option af) (some (c.set a (.cells d 0))) (fun _ _=>cR.casesOn (motive:=fun _=>Option af) (c.get h) aJ (fun _ _=>aJ) (fun j _=>aQ (bn j a) (some ((c.set a (.cells d h)).set h (.bD a a)))) (fun _=>aJ)) h)) fun c=>some (V.undef,c))=_;rw[s,r];subst o;show aQ true (an (aQ true (cR.casesOn (motive:=fun _=>Option af) (c.get (e+1)) aJ (fun _ _=>aJ) (fun j _=>aQ (bn j a) (some ((c.set a (.cells d (e+1))).set (e+1) (.bD a a)))) (fun _=>aJ))) fun c=>some (V.undef,c))=_;rw[k];show aQ true (an (aQ true (aQ (bn a a) (some ((c.set a (.cells d (e+1))).set (e+1) (.bD a a))))) fun c=>some (V.undef,c))=_;rw[tC];rfl
theorem vU{d:f→List V}(p:∀a,(d a).length=h)(g:List V)(o:Nat):∀(l:List f) (i:Nat) (a b:f),l[i]? =some a→cz g (d a) o=some (d b)→cz g (br d l) (i*h+o)=some (br d (l.set i b))
 |[],_,_,_,j,_=>by cases j
 |c::l,0,a,b,j,e=>by
  cases j;rw[k8]at e⊢;split at e
  ·rename_i n;rw[jg,eJ,ao (by show o+g.length≤(d c++br d l).length;rw[aV];omega)];show some ((d c++br d l).take o++g++(d c++br d l).drop (o+g.length))=some (d b++br d l);rw[←Option.some.inj e,wE aa,List.drop_append_of_le_length n];simp[fl]
  ·cases e
 |c::l,i+1,a,b,j,e=>by
  have k:=vU p g o l i a b j e;rw[k8]at k⊢;have q:=p c;have m:(i+1)*h+o=(d c).length+(i*h+o):=by rw[oR,q];omega
  split at k
  ·rename_i n;rw[ao (by show(i+1)*h+o+g.length≤(d c++br d l).length;rw[aV,m];omega)];show some ((d c++br d l).take ((i+1)*h+o)++g++(d c++br d l).drop ((i+1)*h+o+g.length))=some (d c++br d (l.set i b));rw[m,List.take_length_add_append,mo,List.drop_length_add_append,←Option.some.inj k];simp[fl]
  ·cases k
theorem Fv{bytes:Nat}(f:c.get h=.cells [] 0)(l:0<u)(g:b.length=u*a)(j:u≤1073741824∧bytes≤1024)
 (k:∀d,cE d c.next (c.next+1) b→(∀y,y<c.next→d.get y=c.get y)→d.next=c.next+2→e (put m i (.slice c.next 0 u (.grown a))) d):gk i e m (fA a bytes [.slice h 0 0 (.known 0),.row u b] c):=by
 refine Bh f l g j (k _ ⟨?_,⟨c.next,?_,aF _⟩,sj _⟩ (fun y n=>?_) rfl)
 ·rw[af.aY,aj (by show¬(c.next+1=c.next);omega),af.aY,ao rfl]
 ·rw[af.aY,ao (show(c.push (cR.cells b (c.next+1))).next=c.next+1 from rfl)]
 ·rw[af.aY,aj (by show¬(c.next+1=y);omega),af.aY,aj aa]
theorem Pm{b:f→List V}(e:∀a,(b a).length=h)(g:0<h){m:List f}(i:m.length=L)(d:cE c u (u+1) (br b m))(n:u+1<c.next):bO c (af.zero c.next) (.slice u 0 L (.grown h)) (bu b m):=by
 subst i;obtain⟨r,j,k⟩:=d.bD;exact mH e g (.cells d.row j k d.ne (fO b e m) aa aa) (cD.refl _) (fun y l o=>af.e7 _ _) (fO b e m)
def nU(l:List b9)(i:Nat)(q:Rat):List b9×List b9:=(l.set i { l.getD i jb with hi:=q,hh:=true },l.set i { l.getD i jb with lo:=q,hl:=true })
set_option maxHeartbeats 1000000 in
theorem BF(l:List b9)(hl:0<l.length∧l.length≤1000)(i:Nat)(hi:i<l.length)(q lo c:Rat)(a b:Bool)(x:l[i]? =some ⟨lo,c,a,b⟩)(F:Fr)(H:af)(k:rd 0 F=c8 l)(r:rd 1 F=ah (i:Int))(t:rd 5 F=.ptr 5 0)(O:H.get 5=.cells (bk q) 0)(m:H.next=7):
 bw (pc 45 3) (fu (n6 kZ) fun S o=>∃v,bO o (af.zero o.next) S v∧bA v∧v=.aA [c8 (l.set i ⟨lo,q,a,true⟩),c8 (l.set i ⟨q,c,true,b⟩),bE]) F H:=by
 have J:=fO eB mb l;have w:(0:Int)≤(i:Int)∧(i:Int)<((l.length:Nat):Int):=aa;change rd 0 F=bu eB l at k;unfold bu at k;simp only[go_sem,ai 45 kZ 3,ai 45 kZ 2,ai 45 kZ 1,ai 45 kZ 0,Ap kZ,c8,k,m];refine Fv (by simp only[go_sem,m]) hl.1 J ⟨aa,ag⟩ fun o B z g=>?_
 simp only[go_sem,m]at B z g;simp only[go_sem,k,g,m];refine Fv (by simp only[go_sem,g]) hl.1 J ⟨aa,ag⟩ fun e D n N=>?_
 simp only[go_sem,g]at D n N;have qq:e.get 5=.cells (bk q) 0:=by rw[n 5 ag,aj ag,z 5 ag,aj ag];exact O
 have C:=B.keep (H':=e) (by rw[n 8 ag,aj ag]) (by rw[n 9 ag,aj ag]);have K:=ya (v:=bz q) C (vU mb (bk q) 4 l i _ ⟨lo,q,a,b⟩ x rfl) rfl rfl rfl (n:=4) rfl;have u:∀ {s:b9},(l.set i s)[i]? =some s:=fun{_}=>by rw[List.getElem?_set_self hi]
 have G:=C.written (br eB (l.set i ⟨lo,q,a,b⟩));have L:=ya (v:=bE) G (vU mb [bE] 9 _ i _ ⟨lo,q,a,true⟩ u rfl) rfl rfl rfl (n:=1) rfl;simp only[bk]at qq;simp only[bz,bk]at K;simp only[List.set_set]at L;simp only[go_sem,r,t,qq,bW w,K,L];obtain⟨d,h⟩:∃d,d=af.wr (af.wr e 8 9 (br eB (l.set i ⟨lo,q,a,b⟩))) 8 9 (br eB (l.set i ⟨lo,q,a,true⟩)):=⟨_,rfl⟩;have bB:∀y,y≠8→y≠9→d.get y=e.get y:=fun y a b=>by rw[h,nq a b,nq a b]
 have P:cE d 8 9 (br eB (l.set i ⟨lo,q,a,true⟩)):=by rw[h];exact G.written _
 have E:=D.keep (bB 11 ag ag) (bB 12 ag ag);have By:=(bB 5 ag ag).trans qq;rw[←h];have p:=ya (v:=bz q) E (vU mb (bk q) 0 l i _ ⟨q,c,a,b⟩ x rfl) rfl rfl rfl (n:=4) rfl;have I:=E.written (br eB (l.set i ⟨q,c,a,b⟩));have M:=ya (v:=bE) I (vU mb [bE] 8 _ i _ ⟨q,c,true,b⟩ u rfl) rfl rfl rfl (n:=1) rfl;simp only[bz,bk]at p;simp only[List.set_set,cG]at p M;simp only[go_sem,r,t,By,bW w,g,cG,p,M];obtain⟨f,j⟩:∃f,f=af.wr (af.wr d 11 12 (br eB (l.set i ⟨q,c,a,b⟩))) 11 12 (br eB (l.set i ⟨q,c,true,b⟩)):=⟨_,rfl⟩;have A:∀y,y≠11→y≠12→f.get y=d.get y:=fun y a b=>by rw[j,nq a b,nq a b]
 have R:cE f 11 12 (br eB (l.set i ⟨q,c,true,b⟩)):=by rw[j];exact I.written _
 have Q:=P.keep (A 8 ag ag) (A 9 ag ag);have T:f.next=13:=by rw[j,←N,←show d.next=e.next by rw[h];rfl];rfl
 rw[←j];exact⟨_,.aA (.cons (Pm mb ag (gE ..) Q aa) (.cons (Pm mb ag (gE ..) R aa) (.cons (.same _) .nil))),.aA (.cons (lE _) (.cons (lE _) (.cons (.bool _) .nil))),rfl⟩
theorem G_(l:List b9)(hl:0<l.length∧l.length≤1000)(i:Nat)(hi:i<l.length)(q:Rat)(k:bg 1000 q)(p:∀s∈l,iE 1000 s)(j:oX q (l.getD i jb)):aS 45 [c8 l,ah (i:Int),bz q] (.aA [c8 (nU l i q).1,c8 (nU l i q).2,bE]):=by
 refine gh (.cons (lE l) (.cons (.int _ _) (.cons (fT q) .nil))) (Ee kZ (h:=?_));obtain⟨x,r,a⟩:=iR hi;have m:l.getD i jb=x:=by rw[cy,a];rfl
 rw[m]at j;obtain⟨t,u⟩:=j;obtain⟨v,w⟩:=p _ r;have b:=gi mb a;have o:=zQ q x.lo k v ag;have e:=zQ q x.hi k w ag;have f:x.hl=true→gj (q-x.lo)=1:=fun h=>HD (t h)
 have g:x.hh=true→gj (q-x.hi)= -1:=fun h=>zY (u h)
 have hh:nU l i q=(l.set i ⟨x.lo,q,x.hl,true⟩,l.set i ⟨q,x.hi,true,x.hh⟩):=by unfold nU;rw[m]
 rw[hh];obtain⟨lo,c,n,d⟩:=x;simp only[eB,bk,eL,eE]at b;simp only[go_sem,aU 45 kZ,bz,bk];cases n
 ·cases d
  ·simp(disch:=omega)only[go_sem,ai 45 kZ 5,ai 45 kZ 4,c8,eU,b];refine BF l hl i hi q lo c _ _ a _ _ ?_ ?_ ?_ ?_ ?_
   all_goals(simp only[go_sem];try rfl)
  ·simp(disch:=omega)only[go_sem,ai 45 kZ 5,ai 45 kZ 4,c8,eU,b];refine use e ?_;simp only[go_sem,g rfl];refine BF l hl i hi q lo c _ _ a _ _ ?_ ?_ ?_ ?_ ?_
   all_goals(simp only[go_sem];try rfl)
 ·simp(disch:=omega)only[go_sem,ai 45 kZ 5,ai 45 kZ 4,c8,eU,b];refine use o ?_;cases d
  ·simp only[go_sem,f rfl];refine BF l hl i hi q lo c _ _ a _ _ ?_ ?_ ?_ ?_ ?_
   all_goals(simp only[go_sem];try rfl)
  ·simp only[go_sem,f rfl];refine use e ?_;simp only[go_sem,g rfl];refine BF l hl i hi q lo c _ _ a _ _ ?_ ?_ ?_ ?_ ?_
   all_goals(simp only[go_sem];try rfl)
theorem Bj:aS 125 [.agg [ah 0,.ak,.ak]] bE:=by
 refine gh (.cons (.agg (.cons (.int _ _) (.cons .ak (.cons .ak .nil)))) .nil) (cN Tryz.f125 (h:=?_));simp only[go_sem];exact fG rfl (.bool _)
@[go_sem]theorem avt(n:Nat)(l:List (List ax)):aZ (gd n l)=true∧cellsOf (gd n l)=[gd n l]∧V.one (gd n l)=true:=⟨rfl,rfl,rfl⟩
@[go_sem]theorem avz(o:List ax):aZ (bJ o)=true∧cellsOf (bJ o)=[bJ o]∧V.one (bJ o)=true:=⟨rfl,rfl,rfl⟩
@[go_sem]theorem avw(s:List b9):aZ (c8 s)=true∧cellsOf (c8 s)=[c8 s]∧V.one (c8 s)=true:=⟨rfl,rfl,rfl⟩
@[go_sem]theorem avB(n:Nat)(l:List (List ax)):aZ (cB n l)=true∧cellsOf (cB n l)=[cB n l]∧V.one (cB n l)=true:=⟨rfl,rfl,rfl⟩
@[go_sem]theorem avp(n:Nat):aZ (e9 n)=true∧cellsOf (e9 n)=[e9 n]∧V.one (e9 n)=true:=⟨rfl,rfl,rfl⟩
structure eW (g:Nat) (H H':af):Prop where
 a:∀y,y<H.next→(∀cs,H.get y≠ .cells cs 0)→(g=0∨y≠g)→H'.get y=H.get y
 n:H.next≤H'.next
theorem eW.refl:eW a c c:=⟨fun _ _ _ _=>rfl,aF _⟩
theorem eW.set(b:eW h c I){cs:List V}(g:I.get u=.cells cs 0)(o:cR):eW h c (I.set u o):=
 ⟨fun y i d f=>by
   have e:=b.a y i d f;rw[af.aK,aj (by rintro rfl;exact d cs (e.symm.trans g))];exact e,b.n⟩
theorem eW.trans{g:af}(d:eW h c I)(i:eW u I g)(e:u=0∨u=h∨c.next≤u):eW h c g:=
 ⟨fun y j f l=>by
   have k:=d.a y j f l;rw[←k]at f⊢;exact i.a y (eF j d.n) f aa,cH d.n i.n⟩
theorem eW.app(d:∀y,y<c.next→(a=0∨y≠a)→I.get y=c.get y)(e:c.next<I.next):eW a c I:=⟨fun y f _ b=>d y f b,hO e⟩
theorem eW.low(b:∀y,y<c.next→I.get y=c.get y)(d:c.next≤I.next):eW a c I:=⟨fun y e _ _=>b y e,d⟩
theorem eW.to(b:eW 0 c I):eW h c I:=⟨fun y e d _=>b.a y e d (.inl rfl),b.n⟩
theorem aH.yF{v:V}{y:List V}{g:Nat}(p:aH c h v b L)(q:aH c u r y g)(a:eW g c I)(e:L=0∨L≠g):aH I h v b L:=by
 cases p with
 |nil=>exact .nil
 |cells i k t j w hl s=>
  rename_i l m f;have C:=a.n;refine .cells ?_ ?_ t j w aa aa
  ·rw[a.a l s (fun o d=>by rw[i]at d;cases d;exact j rfl) ?_];exact i;cases q with
   |nil=>exact .inl rfl
   |cells kb x aR z aZ B A=>exact .inr fun d=>by rw[d,x]at i;cases i
  ·rw[a.a L hl (fun o d=>by rw[k]at d;cases d) aa];exact k
theorem aH.oo{v:V}(d:aH c h v b u)(a:eW 0 c I):aH I h v b u:=aH.yF d (aH.nil (sz:=1)) a aa
theorem aH.lt{v:V}(d:aH c a v b h):h=0∨h<c.next:=by
 cases d with
 |nil=>exact .inl rfl
 |cells f j i e k hl g=>exact .inr hl
theorem aH.ps{v:V}(e:aH c a v b h)(d:List V)(o:cR):aH ((c.push (.cells d 0)).set c.next o) a v b h:=(e.push _).set (by rw[af.aY,ao rfl]) o
def SR(a b:af):Prop:=∀y c k,k≠0→a.get y=.cells c k→b.get y=.none
def jq(H:af)(g:Nat)(c d:List V):Prop:=∀a b,SR a b→eW g H a→cD a b c d
theorem jq.nil:jq c a [] []:=fun _ _ _ _=>.nil
theorem Ol:∀ {d f e g:List V},cD c I d f→cD c I e g→cD c I (d++e) (f++g)
 |_,_,_,_,.nil,h=>h
 |_,_,_,_,.cons a b,h=>.cons a (Ol b h)
theorem jq.app{xs ys f:List V}(g:jq c h xs ys)(i:jq c h b f):jq c h (xs++b) (ys++f):=fun d e n a=>Ol (g d e n a) (i d e n a)
theorem jq.step{d:List V}(j:jq c h b d)(a:eW h c I)(e:u=0∨u=h∨c.next≤u):jq I u b d:=fun f g n i=>j f g n (a.trans i e)
theorem aH.xz{k:Nat}{v:V}{p:List V}{BB:Nat}(f:aH c k v b BB)(i:aH c h r p L)(e:BB=0∨BB≠L)(d:0<k)(l:b.length=u*k):jq c L [v] [.row u b]:=fun q s o a=>by
 obtain⟨m,h,n⟩:=(aH.yF f i a e).dQ d (fun y g j=>o y _ _ g j) (cD.refl _);have:m=u:=Nat.eq_of_mul_eq_mul_right d (n.trans l);rw[this]at h;exact .cons h .nil
theorem NA{bytes n:Nat}{cs:List V}(t:c.get u=.cells [] 0)(w:0<h)(j:cs.length=n*h)(v:n≤1073741824∧bytes≤1024)
 (k:∀b d,(∀y,y<c.next→d.get y=c.get y)→c.next≤d.next→aZ b=true∧cellsOf b=[b]∧V.one b=true→(∀f l o p g,eW 0 d f→aH f l o p g→(g=0∨g<c.next)→jq f g [b] [.row n cs])→e (put m i b) d):
 gk i e m (fA h bytes [.slice u 0 0 (.known 0),.row n cs] c):=by
 by_cases r:0<n
 ·refine Bh t r j v (k _ _ (fun y A=>?_) ?_ ⟨rfl,rfl,rfl⟩ fun f l o p g a s z=>?_)
  ·rw[af.aY,aj (by show¬(c.next+1=y);omega),af.aY,aj aa]
  ·show c.next≤c.next+1+1;omega
  ·refine aH.xz (k:=h) (BB:=c.next+1) (aH.oo (.cells (f:=c.next) ?_ ?_ (aF _) (sj _) j ?_ ?_) a) s aa w j
   ·rw[af.aY,aj (by show¬(c.next+1=c.next);omega),af.aY,ao rfl]
   ·rw[af.aY,ao (show(c.push (cR.cells cs (c.next+1))).next=c.next+1 from rfl)]
   ·show c.next+1<c.next+1+1;omega
   ·show c.next<c.next+1+1;omega
 ·have:n=0:=aa;subst this;have:cs=[]:=List.length_eq_zero_iff.1 aa;subst this;have q:eM 0 h=0:=jg h;show gk i e m (an (cj ([]:List V) (eM 0 h)) fun x=>jJ h bytes (.slice u 0 0 (.known 0)) 0 x c);rw[q];exact k (.slice u 0 0 (.known 0)) c (fun _ _=>rfl) (aF _) ⟨rfl,rfl,rfl⟩ fun _ _ _ _ _ _ _ _ _ _ _ _=>.cons (.fj _ _ _) .nil
theorem Ns{a e k l:Nat}(j:Nat)(g:List Nat)(B:Nat)(E:Nat→Fr→af→Prop)
 (hi:rd h m=ah (j:Int)) (hl:j<1000000000) (G:h∉g∧a∉g∧u∉g∧L∉g∧e∉g∧h≠a∧h≠u∧h≠L∧h≠e∧L≠e∧a≠u) (D:B≤c.next)
 (i:∀b m c t v,t=a∨t=u∨t=L∨t=e∨t=h→E b m c→E b (put m (some t) v) c) (A:E j m c)
 (step:∀b d f,b<j→kg g d m→en B c f→rd h d=ah ((b+1:Nat):Int)→E (b+1) d f→bw M (iY l (wM g B h (b+1) m c (E b) (iY k F))) d f)
 (C:∀d f,kg g d m→en B c f→E 0 d f→F .norm d f):
 bw (.loop (.seq (.seq (.bP [ex a (mv (rd h)),ex u (bi .gtr (rd a) (kc (ah 0)))]) (.cond (rd u) .skip (.exit k))) (.seq (.block l M) (.bP [ex L (mv (rd h)),ex e (bi .sub (rd L) (kc (ah 1))),ex h (bN (rd e))])))) (iY k F) m c:=by
 obtain⟨N,O,P,Q,R,y,z,d3,U,V,d6⟩:=G;refine bK (fun r d f=>r≤j∧kg g d m∧en B c f∧rd h d=ah (r:Int)∧E r d f) j ⟨aF _,uB.2 fun _ _=>rfl,.refl D,hi,A⟩ ?_;rintro r d f ⟨W,H,hh,p,s⟩;have w:=fun S T=>uC P (v:=T) (uC O (v:=S) H)
 cases r with
 |zero=>
  simp only[go_sem,p,show((0:Int)<((0:Nat):Int))=False from eq_false aa];exact C _ _ (w _ _) hh (i _ _ _ _ _ (.inr (.inl rfl)) (i _ _ _ _ _ (.inl rfl) s))
 |succ b=>
  simp only[go_sem,p,show((0:Int)<((b+1:Nat):Int))=True from eq_true aa];refine Go.au.wp_mono M (fun x n o=>DN (fun x n o q=>?_) x n o) (step b _ f aa (w _ _) hh ?_ (i _ _ _ _ _ (.inr (.inl rfl)) (i _ _ _ _ _ (.inl rfl) s)))
  ·cases x with
   |norm=>
    obtain⟨J,l,bB,K⟩:=q;have I:aB .i64 (((b+1:Nat):Int)-1)=(b:Int):=by rw[aI _ aa];omega
    show bw (.bP _) _ n o;simp only[go_sem,bB,I];exact⟨b,mq b,aa,uC N (uC R (uC Q J)),l,by simp only[go_sem],i _ _ _ _ _ (.inr (.inr (.inr (.inr rfl)))) (i _ _ _ _ _ (.inr (.inr (.inr (.inl rfl)))) (i _ _ _ _ _ (.inr (.inr (.inl rfl))) K))⟩
   |ret=>exact q
   |exit e=>exact q
  ·rw[qJ (Ne.symm z),qJ (Ne.symm y)];exact p
theorem RU{l:List f}{a:f}(b:l[h]? =some a):l.take (h+1)=l.take h++[a]:=by rw[List.take_add_one,b];rfl
theorem rO{b:f→List V}{l:List f}{a:f}(c:l[h]? =some a):br b (l.take (h+1))=br b (l.take h)++b a:=by
 rw[RU c,pK];show _++(b a++[])=_;rw[fN]
def uy(n:Nat)(p:qh):List V:=[bI p.is,bu (kr n) p.gr]
theorem Hs(n:Nat)(p:qh):(uy n p).length=2:=rfl
theorem ahc(n:Nat)(p:qh):bX (uy n p):=.cons (ni p.is) (.cons (ie (FI n) p.gr) .nil)
def nB(n:Nat)(c:nH):List V:=[ah 1,bu (uy n) c.ps,bu (jc n) c.ms]
theorem Bo(n:Nat)(c:nH):bX (nB n c):=.cons (.int _ _) (.cons (ie (ahc n) c.ps) (.cons (ie (vq n) c.ms) .nil))
theorem uD(n:Nat)(p:List ax):(jc n p).length=4:=rfl
theorem rT{l:List f}:l.take l.length=l:=List.take_length
theorem F5(l:List Nat):(ct l).length=l.length*1:=by simp[ct]
theorem RJ(n:Nat)(s:mu):cK (iA n s)=true:=rfl
theorem aqS(n:Nat)(p:List ax):cK (eR n p)=true:=rfl
theorem ast(b:Nat)(hn:b=1∨b=2)(k e:Nat)(c:nH)(O:c.az b k e)(he:e≤16):aS 197 [.agg (nB b c)] (.aA [.agg (gS b c),bE]):=by
 have dC:=O.zi;have dv:=O.lm;refine gh (.cons (.agg (Bo b c)) .nil) (cN Tryz.f197 (h:=?_));have c1:((64:Int)<(c.ps.length:Int))=False:=eq_false aa;simp only[go_sem,nB,c1];refine each c.ps.length [1,2,3,4,21,22] 7 (fun m F H=>rd 5 F=bE∧8≤H.next∧∃v C g,H.get 7=.cells [ah 1,v,.ak] 0∧aH H 2 v C g∧jq H g C (br (kq b) (c.ps.take m))∧C.length=m*2∧(g=0∨7<g)) ?_ ?_ aa ag (kV rfl) ?_ ?_ ?_ ?_
 iterate 2 simp only[go_sem]
 ·rintro m F H t v h ⟨D,L⟩;exact⟨by rw[qJ aa];exact D,L⟩
 ·exact⟨by simp only[go_sem],aF 8,.ak,[],0,by simp only[go_sem],.nil,.nil,rfl,.inl rfl⟩
 ·rintro m b0 H1 hm u hh hi ⟨a4,h8,v,C,g,bh,P,al,bb,ce⟩;simp only[go_sem]at u;obtain⟨a,ad,N⟩:=iR hm;have hr:=gi (Hs b) N;have hp:=O.ps a ad;have dT:=hp.li;have d0:=hp.ls;have T:=bG (aa:H1.next<H1.next+1)
  have bv:=bG (aa:7<H1.next)
  simp(disch:=omega)only[go_sem,u,hi,eU,hr,uy,T,bv];refine NA (n:=a.is.length) (cs:=ct a.is) ?_ ag (F5 _) ⟨aa,ag⟩ fun Z p k1 k2 ⟨bB,ar,R⟩ ci=>?_
  ·simp only[go_sem]
  simp only[go_sem]at k1 k2;have du:p.get 7=.cells [ah 1,v,.ak] 0:=by rw[k1 7 aa];simp only[go_sem,bv,bh,bG (aa:7<H1.next+1)]
  have da:p.get H1.next=.cells [bI a.is,bu (kr b) a.gr] 0:=by rw[k1 _ aa];simp only[go_sem,T]
  have nb:=bG (aa:H1.next<p.next)
  have c2:((256:Int)<(a.gr.length:Int))=False:=eq_false aa;simp only[go_sem,bB,ar,R,nb,da,a4,c2];have bi:en H1.next H1 p:=⟨fun y l=>by rw[k1 y aa];simp only[go_sem,bG (aa:y<H1.next+1),bG l],aa⟩
  refine each a.gr.length [1,2,3,4,7,8,21,22,23,40,41] p.next (fun j F H=>rd 5 F=bE∧p.next<H.next∧∃o x,H.get p.next=.cells [Z,o] 0∧aH H 7 o (br (iA b) (a.gr.take j)) x∧(x=0∨p.next<x)) ?_ ?_ aa ag (by simp only[go_sem];omega) ?_ ?_ ?_ ?_
  iterate 2 simp only[go_sem]
  ·rintro m F H t v h ⟨D,L⟩;exact⟨by rw[qJ aa];exact D,L⟩
  ·exact⟨by simp only[go_sem],mq _,.ak,0,by simp only[go_sem],.nil,.inl rfl⟩
  ·rintro j a3 f hj d A Q ⟨E,dk,o,x,G,i,a7⟩;simp only[go_sem,u]at d;obtain⟨s,cs,hs⟩:=iR hj;have cp:=gi (xV b) hs;have m1:=bG (aa:p.next<f.next)
   have bs:=bG (aa:5<f.next)
   have I:=bG (aa:7<f.next)
   have ab:f.get 5=.cells (nB b c) 0:=by
    rw[A.1 5 aa];simp only[go_sem,bG (aa:5<p.next)]
    rw[bi.1 5 aa,hh.1 5 aa];simp only[go_sem,nB]
   have bo:=hp.gr s cs;have hf:=N6 b s.r ⟨bo.r,hn⟩;have hw:=asu b hn s bo;have dE:∀q:Rat,cK (bk q)=true:=fun _=>rfl
   simp(disch:=omega)only[go_sem,d,Q,eU,cp,kr,bk,jc,gf,E];refine use hf ?_;simp only[go_sem,d,m1,bs,G,ab,nB];refine use hw ?_;simp only[go_sem,d,m1,bs,G,ab,nB,iA,eR,bS];have a6:=aH.ps i [aC,.ak,aC,.ak,aC,.ak,aC,.ak,ah 0,.ak,ah 0,.ak] (.cells (kr b s) 0);have c':=fO (iA b) (pP b) (a.gr.take j);have c0:(a.gr.take j).length≤2:=by rw[dP];omega
   refine gA (bytes:=104) (new:=iA b s) a6 (pP b s) ag (RJ b s) ⟨aa,ag⟩ fun v3 J K B a1 w X=>?_
   simp only[go_sem]at a1 w X;have Y:J.get p.next=.cells [Z,o] 0:=by rw[w _ aa (i.ne G)];simp only[m1,if_false,G]
   obtain⟨U,V,W⟩:=B.aZ;simp only[go_sem,u,d,Q,Y,U,V,W];refine⟨en.set ⟨fun y l=>?_,aa⟩ (aF _) _,aa,v3,K,rfl,?_,aa⟩
   ·rw[w y aa aa,aj aa,aj aa];exact A.1 y l
   ·rw[rO hs];exact B.set Y _
  ·rintro a3 f d A ⟨E,dk,o,x,G,i,a7⟩;simp only[go_sem,u]at d;rw[rT]at i;obtain⟨l3,l4,S⟩:=i.aZ;have hK:∀y,y<H1.next→f.get y=H1.get y:=fun y l=>by
    rw[A.1 y aa];simp only[go_sem,bG (aa:y<p.next)]
    exact bi.1 y l
   have ae:aH f 2 v C g:=aH.oo P (eW.low hK aa);have dt:=aH.lt P;have z:f.get 7=.cells [ah 1,v,.ak] 0:=(hK 7 aa).trans bh;have I:=bG (aa:7<f.next)
   have cd:jq f g (C++[Z,o]) (br (kq b) (c.ps.take (m+1))):=by
    rw[rO N];refine(al.step (eW.low hK aa) (.inr (.inl rfl))).app (jq.app (xs:=[Z]) (ys:=[bI a.is]) (ci f 2 v C g (eW.low (fun y l=>?_) aa) ae (by simp only[go_sem];omega)) (aH.xz i ae aa ag (fO (iA b) (pP b) a.gr)));rw[A.1 y l];simp only[go_sem,bG l]
   simp only[go_sem,d,z,G,bB,ar,R,l3,l4,S,I];refine gA (bytes:=48) (new:=[Z,o]) ae rfl ag (by simp only[go_sem,R,S]) ⟨aa,ag⟩ fun v4 J K B a1 w X=>?_
   have bd:J.get 7=.cells [ah 1,v,.ak] 0:=(w 7 aa (ae.ne z)).trans z;obtain⟨U,V,W⟩:=B.aZ;simp only[go_sem,d,bd,U,V,W,u,hi];refine⟨en.set ⟨fun y l=>?_,aa⟩ (aF _) _,E,aa,v4,_,K,rfl,B.set bd _,cd.step ((eW.app w X).set bd _) aa,?_,aa⟩
   ·rw[w y aa aa,hK y aa];exact hh.1 y l
   ·rw[aV,bb];show m*2+2=_;omega
 ·rintro b0 H1 u hh ⟨a4,h8,v,C,g,bh,P,al,bb,ce⟩;simp only[go_sem]at u;rw[rT]at al;obtain⟨bB,ar,R⟩:=P.aZ;have ab:H1.get 5=.cells (nB b c) 0:=by
   rw[hh.1 5 aa];simp only[go_sem,nB]
  have b':H1.get 6=.cells [ah 0,.ak,.ak] 0:=by
   rw[hh.1 6 aa];simp only[go_sem]
  simp only[go_sem,u,ab,nB];refine each c.ms.length [1,2,3,4,70,71] 7 (fun m F H=>rd 5 F=bE∧eW 0 H1 H∧∃o x,H.get 7=.cells [ah 1,v,o] 0∧aH H 4 o (br (eR b) (c.ms.take m)) x∧(x=0∨H1.next≤x)) ?_ ?_ aa ag aa ?_ ?_ ?_ ?_
  iterate 2 simp only[go_sem]
  ·rintro m F H t v h ⟨D,L⟩;exact⟨by rw[qJ aa];exact D,L⟩
  ·exact⟨by simp only[go_sem,a4],.refl,.ak,0,bh,.nil,.inl rfl⟩
  ·rintro m a3 f hm d A Q ⟨E,M,o,x,z,i,a7⟩;simp only[go_sem,u]at d;obtain⟨a,ad,N⟩:=iR hm;have hr:=gi (uD b) N;have dq:=M.n;have hw:=Sy b a ⟨O.ms a ad,hn⟩;have hf:=N6 b a ⟨O.ms a ad,hn⟩;have I:=bG (aa:7<f.next)
   obtain⟨l3,l4,S⟩:=i.aZ;simp(disch:=omega)only[go_sem,d,Q,eU,hr,jc,gf,E];refine use hf ?_;simp only[go_sem,d,I,z];refine use hw ?_;simp only[go_sem,d,I,z,eR,bS,jR];have a6:=aH.ps i [ah 0,.ak,ah 0,.ak] (.cells (jc b a) 0);have c':=fO (eR b) (pR b) (c.ms.take m);have c0:(c.ms.take m).length≤16:=by rw[dP];omega
   refine gA (bytes:=64) (new:=eR b a) a6 (pR b a) ag (aqS b a) ⟨aa,ag⟩ fun v3 J K B a1 w X=>?_
   simp only[go_sem]at a1 w X;have Y:J.get 7=.cells [ah 1,v,o] 0:=by rw[w _ aa (i.ne z)];simp only[I,if_false,z]
   obtain⟨U,V,W⟩:=B.aZ;simp only[go_sem,u,d,Q,Y,U,V,W];refine⟨en.set ⟨fun y l=>?_,aa⟩ (aF _) _,⟨fun y l T n2=>?_,by simp only[go_sem];omega⟩,v3,K,rfl,?_,aa⟩
   ·rw[w y aa aa,aj aa,aj aa];exact A.1 y l
   ·have co:7≠y:=by rintro rfl;exact T _ bh
    rw[af.aK,aj co,w y aa aa,aj aa,aj aa];exact M.a y l T n2
   ·rw[rO N];exact B.set Y _
  ·rintro a3 f d A ⟨E,M,o,x,z,i,a7⟩;simp only[go_sem,u]at d;rw[rT]at i;have a2:f.get 6=.cells [ah 0,.ak,.ak] 0:=by rw[A.1 6 aa];exact b'
   obtain⟨l3,l4,S⟩:=i.aZ;simp only[go_sem,d,E,a2,z,bB,ar,R,l3,l4,S];have cf:=(aH.oo P M).set a2 (.cells [ah 1,v,o] 0);refine⟨_,.aA (.cons (.agg (.cons (.same _) (.cons (mH (xO b) ag cf (al _ _ (fun y dp k _ _=>af.e7 _ _) ((M.trans (eW.refl.set a2 _) (.inl rfl)).to)) (fun y h0 D=>af.e7 _ _) ?_) (.cons (mH (pR b) ag (i.set a2 _) (cD.refl _) (fun y h0 D=>af.e7 _ _) (fO (eR b) (pR b) _)) .nil)))) (.cons (.same _) .nil)),.aA (.cons (.agg (tR b c)) (.cons (.bool _) .nil)),rfl⟩;exact bb
theorem Sz(n:Nat)(d:n=1∨n=2)(k e:Nat)(c:nH)(a:c.az n k e)(b:e≤16):aS 135 [.agg (nB n c)] (.agg (gS n c)):=by
 have h:=ast n d k e c a b;refine gh (.cons (.agg (Bo n c)) .nil) (cN Tryz.f135 (h:=?_));simp only[go_sem,nB];refine use h ?_;simp only[go_sem,gS];exact fG rfl (.agg (tR n c))
theorem PC(b:a=1∨a=2):(0<(vH a).length∧(vH a).length≤6)∧∀e∈vH a,e∈n4 a:=by
 rcases b with rfl|rfl<;>decide
theorem aoo(l:List Int)(hl:l.length≤400)(d:ir l)(n a:Nat)(b:n=1∨n=2)(c:0<a∧a≤10):lC l 98 [ah (n:Int),ah 1,ah (a:Int)] fun v=>∃p,qZ n a p∧v=gD n p:=
 Qi (vH n) (PC b).1 1 l hl d n a b (PC b).2 (amy n b) c
theorem ar3(l:List Int)(hl:l.length≤400)(b:ir l):lC l 259 [ah 1] fun v=>∃w:Nat,w≤4∧v=.aA [bz (w:Rat),bz 0]:=by
 refine n8 (.cons (.int _ _) .nil) fun i hi=>cN Tryz.f259 (h:=?_)
 simp only[go_sem];refine eV (k_ l hl b 5 ag) ag hi ?_ ?_
 ·simp only[go_sem,mI,c4]
 rintro _ c ⟨k,d,rfl⟩ a;simp only[go_sem];refine use (zO _ aa) ?_;simp only[go_sem,bz,bk,c4];refine⟨c,.aA [bz (k:Rat),bz 0],a,rfl,.aA (.cons (.same _) (.cons (.agg ?_) .nil)),.aA (.cons (fT _) (.cons (fT _) .nil)),k,aa,rfl⟩;rw[Qw];exact .cons (.same _) (.cons .fL (.cons (.same _) (.cons .fL .nil)))
theorem RT(l:List Int)(hl:l.length≤400)(d:ir l)(n:Nat)(a:n=1∨n=2):lC l 260 [ah (n:Int),ah 1,ah 1,ah 2] fun v=>∃p,iX n p∧v=pO n p:=by
 refine n8 (.cons (.int _ _) (.cons (.int _ _) (.cons (.int _ _) (.cons (.int _ _) .nil)))) fun i hi=>cN Tryz.f260 (h:=?_)
 simp only[go_sem];refine eV (aoo l hl d n 2 a ag) ag hi ?_ ?_
 ·simp only[go_sem,mI,c4]
 rintro _ e ⟨p,c,rfl⟩ b;simp only[go_sem];refine use (ams n p) ?_;simp only[go_sem,pO,jc,gf,c4];exact⟨e,_,b,rfl,.same _,.agg (vq n p),p,rK a ag c,rfl⟩
structure hM (l:List Int) (B:Nat) (H0 H:af):Prop where
 t:∃i,i≤l.length∧H.get 5=.cells (cJ l i) 0
 k:∀y,y<B→y≠5→H.get y=H0.get y
 n:B≤H.next∧5<B
variable{N:List Int}
theorem hM.push{B:Nat}(h:hM N B c I)(o:cR):hM N B c (I.push o):=by
 have a:=h.n;obtain⟨i,hi,e⟩:=h.t;exact⟨⟨i,hi,by rw[af.aY,aj aa];exact e⟩,fun y d b=>by rw[af.aY,aj aa];exact h.k y d b,Nat.le_succ_of_le a.1,a.2⟩
theorem hM.set{B:Nat}(h:hM N B c I)(g:B≤a)(o:cR):hM N B c (I.set a o):=by
 have d:=h.n;obtain⟨i,hi,e⟩:=h.t;exact⟨⟨i,hi,by rw[af.aK,aj aa];exact e⟩,fun y f b=>by rw[af.aK,aj aa];exact h.k y f b,d⟩
theorem hM.tape{B:Nat}(h:hM N B c I)(hi:a≤N.length):hM N B c (I.set 5 (.cells (cJ N a) 0)):=
 ⟨⟨a,hi,by rw[af.aK,ao rfl]⟩,fun y d b=>by rw[af.aK,aj aa];exact h.k y d b,h.n⟩
theorem hM.app{B:Nat}{b:af}(h:hM N B c I)(d:∀y,y<I.next→(a=0∨y≠a)→b.get y=I.get y)(m:I.next<b.next)(l:a=0∨B≤a):hM N B c b:=by
 have j:=h.n;obtain⟨i,hi,e⟩:=h.t;exact⟨⟨i,hi,by rw[d 5 aa aa];exact e⟩,fun y g f=>by rw[d y aa aa];exact h.k y g f,aa,j.2⟩
theorem Gd{B:Nat}(h:hM N B c I:=by repeat (first|assumption|refine hM.push ?_ _|refine hM.tape ?_ (by assumption)|refine hM.set ?_ (by first|exact nlrf _|omega|(simp only[go_sem];omega)) _)):hM N B c I:=h
theorem hM.yF{H0:af}(h:hM N H0.next H0 c)(e:H0.get 5=.cells b 0):eW a H0 c:=
 ⟨fun y f d _=>h.k y f (by rintro rfl;exact d _ e),h.n.1⟩
theorem zf:en 0 c I:=⟨fun y a=>absurd a (m5 y),b4 _⟩
def SG(l:List Int)(n k e:Nat)(pc:List V)(j:Nat)(H:af):Prop:=(∃i,i≤l.length∧H.get 5=.cells (cJ l i) 0)∧H.get 6=.cells pc 0∧H.get 7=.cells [ah 0,.ak,.ak] 0∧9≤H.next∧
 ∃v b g a,H.get 8=.cells [ah 1,v,.ak] 0∧aH H 2 v b g∧jq H g b (br (uy n) a)∧b.length=a.length*2∧a.length+j≤2∧(∀p∈a,p.az n k)∧(g=0∨8<g)
theorem Un(l:List Int)(hl:l.length≤400)(hz:ir l)(d:Nat)(hn:d=1∨d=2)(o:List ax)(Z es:List (List ax))(li:Z.length≤16)(le:es.length≤16):lC l 195 [fJ ⟨d,o,Z,es⟩,ah 1] fun v=>∃c:nH,c.az d Z.length es.length∧v=.agg (nB d c):=by
 have ce:=k_ l hl hz;have d3:∀x:List (List ax),c3 (gd d x)=some (.val (ah (x.length:Int))):=fun _=>rfl
 refine n8 (.cons (oz _) (.cons (.int _ _) .nil)) fun i0 ex=>cN Tryz.f195 (h:=?_)
 simp only[go_sem,fJ,c4];refine eV (ce 3 ag) ag ex ?_ ?_
 ·simp only[go_sem,mI,c4]
 rintro _ i1 ⟨fg,fv,rfl⟩ a9;simp only[go_sem];obtain⟨pc,a2⟩:∃pc:List V,pc=[ah (d:Int),ah (d:Int),bJ o,gd d Z,gd d es]:=⟨_,rfl⟩;refine Ns fg [0,2,4,6,7] 0 (fun j _ H=>SG l d Z.length es.length pc j H) ?_ aa ag (b4 _) (fun _ _ _ _ _ _ h=>h) ⟨⟨i1,a9,?_⟩,?_,?_,?_,.ak,[],0,[],?_,.nil,.nil,rfl,by simp;omega,fun _ h=>by(cases h),.inl rfl⟩ ?_ ?_
 iterate 4 simp only[go_sem,c4,a2]
 ·simp only[go_sem,c4];omega
 ·simp only[go_sem,c4]
 ·rintro m d8 H1 hm B hh hi ⟨⟨i1,a9,ap⟩,ar,bh,h9,v,xs,g,ps,eY,a7,cd,cp,e2,ch,et⟩;simp only[go_sem]at B;have a3:=bG (aa:5<H1.next)
  have fn:=bG (aa:6<H1.next)
  have f6:=bG (aa:8<H1.next)
  simp only[go_sem,B,hi,ar,fn,a2,d3];refine each Z.length [0,2,4,6,7,8,9,24] 0 (fun m _ H=>hM l H1.next H1 H∧H1.next<H.next∧∃E g1 u,H.get H1.next=.cells [E,.ak] 0∧aH H 1 E (ct u) g1∧u.Pairwise (·< ·)∧(∀x∈u,x<m)∧u.length≤m∧(g1=0∨H1.next<g1)) ?_ ?_ aa ag (b4 _) (fun _ _ _ _ _ _ h=>h) ?_ ?_ ?_
  iterate 2 simp only[go_sem]
  ·exact⟨hM.push ⟨⟨i1,a9,ap⟩,fun _ _ _=>rfl,aF _,aa⟩ _,mq _,.ak,0,[],by simp only[go_sem],.nil,.nil,fun _ h=>(q3 h).elim,aF 0,.inl rfl⟩
  ·rintro q d9 T hq G _ a1 ⟨i,dT,E,g1,u,a4,a8,bo,bj,e0,du⟩;simp only[go_sem,B]at G;obtain⟨i2,eQ,W⟩:=i.t;simp only[go_sem,G,a1];refine eV (ce 3 ag) ag eQ W ?_;rintro _ I ⟨w,hw,rfl⟩ N;by_cases f0:w=2
   ·have e:((w:Int)=2)=True:=eq_true aa;have be:(T.set 5 (.cells (cJ l I) 0)).get H1.next=.cells [E,.ak] 0:=by simp only[go_sem,a3,a4]
    have cb:=a8.set W (.cells (cJ l I) 0);have d2:=i.tape N;have nn:(T.set 5 (.cells (cJ l I) 0)).next=T.next:=rfl
    obtain⟨f,h3⟩:∃f,f=T.set 5 (.cells (cJ l I) 0):=⟨_,rfl⟩;rw[←h3]at be cb d2 nn⊢;have il:=j5 u;simp only[go_sem,G,a1,e,be];refine gA (bytes:=8) (new:=[ah (q:Int)]) cb rfl ag rfl ⟨aa,ag⟩ fun S U O K bc C Q=>?_
    have R:U.get H1.next=.cells [E,.ak] 0:=(C _ aa (cb.ne be)).trans be
    obtain⟨p3,ac,ad⟩:=K.aZ;simp only[go_sem,B,G,hi,a1,R,p3,ac,ad];refine⟨zf,(d2.app C Q aa).set (aF _) _,aa,S,O,u++[q],rfl,?_,?_,?_,?_,aa⟩
    ·have:=K.set R (.cells [S,.ak] 0);rwa[show ct u++[V.int .i64 (q:Int)]=ct (u++[q]) by simp[ct]]at this
    ·rw[wD];exact⟨bo,List.pairwise_singleton _ _,fun a ha b hb=>by rw[ec.1 hb];exact bj a ha⟩
    ·intro x hx;rcases hN.1 hx with h|h
     ·have:=bj x h;omega
     ·rw[ec.1 h];omega
    ·rw[aV];show u.length+1≤_;omega
   ·have e:((w:Int)=2)=False:=eq_false aa;simp only[go_sem,B,G,hi,a1,e,a3,a4];exact⟨zf,i.tape N,dT,E,g1,u,rfl,a8.set W _,bo,fun x hx=>by have:=bj x hx;omega,aa,du⟩
  ·rintro d9 T G _ ⟨i,dT,E,g1,u,a4,a8,bo,e1,e0,du⟩;simp only[go_sem,B]at G;obtain⟨i2,a1,W⟩:=i.t;simp only[go_sem,G];refine eV (ce 3 ag) ag a1 W ?_;rintro _ I ⟨j1,fw,rfl⟩ N;simp only[go_sem];refine Ns j1 [0,2,4,6,7,8,9] 0 (fun j _ H=>hM l H1.next H1 H∧eW 0 T H∧∃z J D,H.get H1.next=.cells [E,z] 0∧aH H 12 z (br (kr d) D) J∧D.length+j≤2∧(∀s∈D,s.az d)∧(J=0∨T.next≤J)) ?_ aa ag (b4 _) (fun _ _ _ _ _ _ h=>h) ?_ ?_ ?_
   ·simp only[go_sem]
   ·exact⟨i.tape N,eW.refl.set W _,.ak,0,[],by simp only[go_sem,a3,a4],.nil,by simp;omega,fun _ h=>(q3 h).elim,.inl rfl⟩
   ·rintro q b' f hq A _ N ⟨i,F,z,J,D,aw,M,a',Y,ca⟩;simp only[go_sem,B,G]at A;obtain⟨I,X,L⟩:=i.t;have dt:=F.n;have b2:=bG (aa:5<f.next)
    have d5:=bG (aa:6<f.next)
    have d4:=bG (aa:f.next<f.next+1)
    have dd:=bG (aa:H1.next<f.next)
    have df:=bG (aa:H1.next<f.next+1)
    have db:=bG (aa:5<f.next+1)
    have d6:=bG (aa:6<f.next+1)
    have vt:f.get 6=.cells pc 0:=(i.k 6 aa ag).trans ar;simp only[go_sem,A,N];refine eV (ar3 l hl hz) ag X L ?_;rintro _ i4 ⟨w,hw,rfl⟩ dC;simp only[go_sem,A,bz,bk,b2,d5,d4,dd,df,db,d6,a3,aw,vt,a2];refine eV (RT l hl hz d hn) ag dC ?_ ?_
    ·simp only[go_sem,b2,db]
    rintro _ i5 ⟨r,hr,rfl⟩ ft;have fb:mu.az d ⟨w,r⟩:=⟨hw,hr⟩;have fs:=fO (kr d) (xV d) D;simp only[go_sem,A,pO,jc,gf,b2,d5,d4,dd,df,db,d6,a3,aw];refine gA (bytes:=192) (new:=kr d ⟨w,r⟩) (aH.oo M ⟨fun y hy P k2=>?_,?_⟩) rfl ag rfl ⟨aa,ag⟩ fun S U O K bc C Q=>?_
    ·have h5:(5=y)=False:=eq_false (by rintro rfl;exact P _ L);simp only[go_sem,bG hy,bG (aa:y<f.next+1),h5]
    ·simp only[go_sem];omega
    simp only[go_sem]at bc Q;have R:U.get H1.next=.cells [E,z] 0:=by
     rw[C _ (by simp only[go_sem];omega) (M.ne aw)];simp only[go_sem,dd,df,a3,aw]
    obtain⟨p3,ac,ad⟩:=K.aZ;have c2:=(Gd:hM l H1.next H1 _).app C (by simp only[go_sem];omega) aa
    simp only[go_sem,B,G,A,hi,N,R,p3,ac,ad];refine⟨zf,c2.set (aF _) _,⟨fun y hy P k2=>?_,by simp only[go_sem];omega⟩,S,O,D++[⟨w,r⟩],rfl,?_,?_,?_,aa⟩
    ·have h5:(5=y)=False:=eq_false (by rintro rfl;exact P _ W);have b5:(H1.next=y)=False:=eq_false (by rintro rfl;exact P _ a4)
     simp only[go_sem,b5,if_false];rw[C y (by simp only[go_sem];omega) aa];simp only[go_sem,bG (aa:y<f.next),bG (aa:y<f.next+1),h5]
     exact F.a y hy P k2
    ·rw[pK];have:=K.set R (.cells [E,S] 0);simpa [br]using this
    ·rw[aV];show D.length+1+_≤_;omega
    ·intro s hs;rcases hN.1 hs with h|h
     ·exact Y s h
     ·rw[ec.1 h];exact fb
   ·rintro b' f A _ ⟨i,F,z,J,D,aw,M,a',Y,ca⟩;simp only[go_sem,B,G]at A;obtain⟨I,X,L⟩:=i.t;have dt:=F.n;have ed:eW g H1 f:=hM.yF i ap;have bi:aH f 2 v xs g:=aH.oo a7 (hM.yF i ap);have bj:=aH.lt a7;have sI:f.get 8=.cells [ah 1,v,.ak] 0:=(i.k 8 aa ag).trans eY;have d7:=bG (aa:8<f.next)
    obtain⟨bB,c1,b0⟩:=(aH.oo a8 F).aZ;obtain⟨l3,l4,b1⟩:=M.aZ;have e':qh.az d Z.length ⟨u,D⟩:=⟨bo,e1,by show u.length≤1000;omega,Y,by show D.length≤2;omega⟩;have eh:jq f g (xs++[E,z]) (br (uy d) (ps++[⟨u,D⟩])):=by
     rw[pK];refine(cd.step ed (.inr (.inl rfl))).app ?_;show jq f g [E,z] ([bI u,bu (kr d) D]++[]);rw[fN];exact jq.app (xs:=[E]) (ys:=[bI u]) (aH.xz (aH.oo a8 F) bi aa ag (F5 u)) (aH.xz M bi aa ag (fO (kr d) (xV d) D))
    simp only[go_sem,A,sI,aw,bB,c1,b0,l3,l4,b1,d7];refine gA (bytes:=48) (new:=[E,z]) bi rfl ag (by simp only[go_sem,b0,b1]) ⟨aa,ag⟩ fun v4 U O K bc C Q=>?_
    have dl:U.get 8=.cells [ah 1,v,.ak] 0:=(C 8 aa (bi.ne sI)).trans sI;obtain⟨p3,ac,ad⟩:=K.aZ;simp only[go_sem,B,G,A,hi,dl,p3,ac,ad];have eq:O=0∨8<O:=aa;refine⟨zf,⟨I,X,?_⟩,?_,?_,by simp only[go_sem];omega,v4,_,O,ps++[⟨u,D⟩],?_,K.set dl _,eh.step ((eW.app C Q).set dl _) aa,?_,?_,?_,eq⟩
    ·simp only[go_sem];rw[C 5 aa aa];exact L
    ·simp only[go_sem];rw[C 6 aa aa,i.k 6 aa ag,ar,a2]
    ·simp only[go_sem];rw[C 7 aa aa,i.k 7 aa ag];exact bh
    ·simp only[go_sem]
    ·rw[aV,aV,cp,eu];rfl
    ·rw[aV];show ps.length+1+_≤_;omega
    ·intro p hp;rcases hN.1 hp with h|h
     ·exact ch p h
     ·rw[ec.1 h];exact e'
 ·rintro d8 H1 B _ ⟨⟨i1,a9,ap⟩,ar,bh,h9,v,xs,g,ps,eY,a7,cd,cp,e2,ch,et⟩;simp only[go_sem]at B;obtain⟨bB,c1,b0⟩:=a7.aZ;simp only[go_sem,B,ar,a2,d3];refine each es.length [0,2,4,6,7,71] 0 (fun m _ H=>hM l 8 H1 H∧eW 0 H1 H∧∃z J ms,H.get 8=.cells [ah 1,v,z] 0∧aH H 4 z (br (jc d) ms) J∧ms.length=m∧(∀p∈ms,iX d p)∧(J=0∨H1.next≤J)) ?_ ?_ aa ag (b4 _) (fun _ _ _ _ _ _ h=>h) ?_ ?_ ?_
  iterate 2 simp only[go_sem]
  ·exact⟨⟨⟨i1,a9,ap⟩,fun _ _ _=>rfl,aa,ag⟩,.refl,.ak,0,[],eY,.nil,rfl,fun _ h=>(q3 h).elim,.inl rfl⟩
  ·rintro q b' f hq A _ N ⟨i,F,z,J,ms,sI,M,a',Y,ca⟩;simp only[go_sem,B]at A;obtain⟨I,X,L⟩:=i.t;have dt:=F.n;have b2:=bG (aa:5<f.next)
   have d7:=bG (aa:8<f.next)
   have vt:f.get 6=.cells pc 0:=(i.k 6 aa ag).trans ar;simp only[go_sem,A,N,vt,sI,a2];refine eV (RT l hl hz d hn) ag X L ?_;rintro _ i4 ⟨r,hr,rfl⟩ dC;have fs:=fO (jc d) (uD d) ms;simp only[go_sem,A,pO,sI];have ds:(f.set 5 (.cells (cJ l i4) 0)).get 8=.cells [ah 1,v,z] 0:=by simp only[go_sem,sI]
   have dv:=M.set L (.cells (cJ l i4) 0);simp only[go_sem,jc,gf];refine gA (bytes:=64) (new:=jc d r) dv rfl ag rfl ⟨aa,ag⟩ fun S U O K bc C Q=>?_
   have R:U.get 8=.cells [ah 1,v,z] 0:=(C _ (by simp only[go_sem];omega) (dv.ne ds)).trans ds;obtain⟨p3,ac,ad⟩:=K.aZ;have c2:=(Gd:hM l 8 H1 _).app C (by simp only[go_sem]at Q⊢;omega) aa;simp only[go_sem]at bc Q;simp only[go_sem,B,A,N,R,p3,ac,ad];refine⟨zf,c2.set (aF _) _,⟨fun y hy P k2=>?_,by simp only[go_sem];omega⟩,S,O,ms++[r],rfl,?_,?_,?_,aa⟩
   ·have h5:(5=y)=False:=eq_false (by rintro rfl;exact P _ ap);have h8:(8=y)=False:=eq_false (by rintro rfl;exact P _ eY);simp only[go_sem,h8,if_false];rw[C y (by simp only[go_sem];omega) aa];simp only[go_sem,h5];exact F.a y hy P k2
   ·rw[pK];have:=K.set R (.cells [ah 1,v,S] 0);simpa [br]using this
   ·rw[aV,a'];rfl
   ·intro p hp;rcases hN.1 hp with h|h
    ·exact Y p h
    ·rw[ec.1 h];exact hr
  ·rintro b' f A _ ⟨i,F,z,J,ms,sI,M,a',Y,ca⟩;simp only[go_sem,B]at A;obtain⟨I,X,L⟩:=i.t;obtain⟨l3,l4,b1⟩:=M.aZ;have bd:f.get 7=.cells [ah 0,.ak,.ak] 0:=(i.k 7 aa ag).trans bh;simp only[go_sem,A,sI,bd,bB,c1,b0,l3,l4,b1];have ev:=(aH.oo a7 F).set bd (.cells [ah 1,v,z] 0);have no:∀y cs c0,c0≠0→(f.set 7 (.cells [ah 1,v,z] 0)).get y=.cells cs c0→(af.one 5 (f.set 7 (.cells [ah 1,v,z] 0)).next (cJ l I)).get y=.none:=fun y cs c0 h0 h1=>by
    rw[af.k6,aj];rintro rfl;rw[af.aK,aj ag,L]at h1;cases h1;exact h0 rfl
   refine⟨I,_,X,L,.agg (.cons (.same _) (.cons (mH (Hs d) ag ev (cd _ _ no (F.trans (eW.refl.set bd _) (.inl rfl)).to) (fun y h0 h1=>no y _ _ h0 h1) cp) (.cons (mH (uD d) ag (M.set bd _) (cD.refl _) (fun y h0 h1=>no y _ _ h0 h1) (fO (jc d) (uD d) _)) .nil))),.agg (Bo d ⟨ps,ms⟩),⟨ps,ms⟩,⟨ch,by show ps.length≤2;omega,Y,a'⟩,rfl⟩
theorem G5(n:Nat):∀(j:Nat) (l:List b9),l9 n j l=ij n j (l.map eC)
 |_,[]=>rfl
 |j,s::l=>by
  rw[List.map_cons,l9,ij,G5 n (j+1) l];obtain⟨lo,hi,a,b⟩:=s;cases a<;>cases b<;>simp[uu,vR,sR,tX,eC,pV,nC]
theorem Tu(s:b9):ot (eC s)=vV s:=by
 obtain⟨lo,hi,a,b⟩:=s;cases a<;>cases b<;>simp[ot,eC,vV,pV]
theorem I0(l:List b9):(l.map eC).all ot=l.all vV:=by
 rw[List.all_map];exact congrArg l.all (funext Tu)
theorem amh(l:List Int)(hl:l.length≤400)(D:ir l)(p:fc)(o:p.az)(s:List b9)(C:s.length=p.n)(I:∀x∈s,iE 90 x):lC l 133 [fJ p,c8 s] fun v=>∃f:p7,q2 p (s.map eC) f∧v=.agg (cA p.n (.leaf f)):=by
 have w:=o.n;have W:=o.li;have V:=o.le;have B:=k_ l hl D;have L:∀x:List (List ax),c3 (gd p.n x)=some (.val (ah (x.length:Int))):=fun _=>rfl
 have r:=QU p o s C I;rw[G5]at r;have J:=xT p.n 0 (s.map eC);rw[iu,C]at J;have K:(p.is++ij p.n 0 (s.map eC)).length≤16:=by rw[aV];omega
 have m:=Un l hl D p.n w p.obj (p.is++ij p.n 0 (s.map eC)) p.es K aa;obtain⟨y,z⟩:∃y,y=p.is++ij p.n 0 (s.map eC):=⟨_,rfl⟩;have A:∀b c,c.az p.n y.length p.es.length→q2 p (s.map eC) (.cert b c):=fun b c h=>by rw[z]at h;exact h
 rw[←z]at r m;have G:=JP s aa;refine n8 (.cons (oz _) (.cons (lE _) .nil)) fun R H=>cN Tryz.f133 (h:=?_)
 simp only[go_sem,fJ,c4];simp only[fJ]at r m;refine use r ?_;simp only[go_sem,c4];refine eV (B 5 ag) ag H ?_ ?_
 ·simp only[go_sem,mI,c4]
 rintro _ E ⟨k,P,rfl⟩ d;by_cases S:k=0
 ·have e:((k:Int)=0)=True:=eq_true aa;simp only[go_sem,e,c4];exact⟨E,_,d,rfl,.same _,.agg (nj p.n (.leaf .jO)),.jO,trivial,rfl⟩
 have t:((k:Int)=0)=False:=eq_false aa;by_cases T:k=1
 ·have j:((k:Int)=1)=True:=eq_true aa;simp only[go_sem,t,j,c4];refine eV m ag d ?_ ?_
  ·simp only[go_sem]
  rintro _ i ⟨c,a,rfl⟩ g;simp only[go_sem];refine use (Sz p.n w _ _ c a aa) ?_;simp only[go_sem,gS,c4];exact⟨i,_,g,rfl,.same _,.agg (nj p.n (.leaf (.cert false c))),.cert false c,A _ c a,rfl⟩
 have j:((k:Int)=1)=False:=eq_false aa;by_cases U:k=2
 ·have u:((k:Int)=2)=True:=eq_true aa;simp only[go_sem,t,j,u,c4];refine eV m ag d ?_ ?_
  ·simp only[go_sem]
  rintro _ i ⟨c,a,rfl⟩ g;simp only[go_sem];refine use (Sz p.n w _ _ c a aa) ?_;simp only[go_sem,gS,c4];exact⟨i,_,g,rfl,.same _,.agg (nj p.n (.leaf (.cert true c))),.cert true c,A _ c a,rfl⟩
 have u:((k:Int)=2)=False:=eq_false aa;simp only[go_sem,t,j,u,c4];refine use G ?_;unfold wU;cases F:s.all vV
 ·simp only[go_sem,iM,if_false,c4];exact⟨E,_,d,rfl,.same _,.agg (nj p.n (.leaf .jO)),.jO,trivial,rfl⟩
 ·have M:aB .i64 (1+(p.is.length:Int))=1+(p.is.length:Int):=aI _ aa;have N:aB .i64 (1+(p.is.length:Int)+(p.es.length:Int))=((1+p.is.length+p.es.length:Nat):Int):=by rw[aI _ aa];omega
  simp only[go_sem,if_true,L,M,N,c4];refine eV (B (1+p.is.length+p.es.length) ⟨aa,aa⟩) ag d ?_ ?_
  ·simp only[go_sem]
  rintro _ i ⟨q,Q,rfl⟩ g;have O:aB .i64 ((q:Int)-1)=(q:Int)-1:=aI _ aa;simp only[go_sem,O,c4];exact⟨i,_,g,rfl,.same _,.agg (nj p.n (.leaf (.wR ((q:Int)-1)))),.wR ((q:Int)-1),⟨aa,aa,by rw[I0];exact F⟩,rfl⟩
end
section
open Go.au Go.aD
set_option maxRecDepth 100000
attribute [local irreducible] rd kc ex bF bC re rg mv bN pick alloc box bi bs ba be bq st fa b6 cF cZ cQ c9 dO dN ms cY dF dD dn mx mn dm ap dy cw dr dw bY dx ext dJ neg Go.au.not dG dB dI dH dM dK dz dL dc c_ u8
structure iO (H:af) (k n:Nat) (v:V) (xs:List V) (b g:Nat):Prop where
 row:H.get b=.cells xs g
 tf:(g=0∧v=.slice b 0 n (.known n))∨(g≠0∧v=.slice b 0 n (.grown k)∧(∃f,H.get g=.bD b f∧f≤b)∧g<H.next)
 len:xs.length=n*k
 lt:b<H.next
section
variable {H:af}{k n:Nat}{v:V}{xs:List V}{b g:Nat}
theorem iO.amn(h:iO H k n v xs b g):c3 v=some (.val (ah (n:Int))):=by
 rcases h.tf with⟨_,rfl⟩|⟨_,rfl,_⟩<;>rfl
theorem iO.aZ(h:iO H k n v xs b g):aZ v=true∧cellsOf v=[v]∧V.one v=true:=by
 rcases h.tf with⟨_,rfl⟩|⟨_,rfl,_⟩<;>exact⟨rfl,rfl,rfl⟩
theorem iO.b6(h:iO H k n v xs b g){i:Int}{ik:IntKind}(hi:0≤i∧i<n):eo none k [v,.int ik i]=some (.val (.ptr b (i.toNat*k))):=by
 rcases h.tf with⟨_,rfl⟩|⟨_,rfl,_⟩<;>(rw[bW hi,eJ])
theorem iO.fV(h:iO H k n v xs b g):H.fV b g=true:=by
 rcases h.tf with⟨a,_⟩|⟨_,_,⟨f,c,d⟩,_⟩
 ·exact gB.2 (.inl a)
 ·exact xD c d
theorem iO.bq(h:iO H k n v xs b g)(s o:Nat):iz false s [.ptr b o] H=cO xs o:=by
 rw[Gh,h.row];exact Gg h.fV
theorem iO.cP(h:iO H k n v xs b g):H.cP b 0 (n*k)=some xs:=by
 unfold af.cP;rw[yR h.row h.fV];show cj (ej xs 0) (n*k)=_;rw[dA,iU h.len]
theorem iO.keep{H':af}(h:iO H k n v xs b g)(c:H'.get b=H.get b)(d:g=0∨H'.get g=H.get g)(m:H.next≤H'.next):iO H' k n v xs b g:=by
 refine⟨c.trans h.row,?_,h.len,by have:=h.lt;omega⟩;rcases h.tf with a|⟨a,e,⟨f,i,j⟩,l⟩
 ·exact .inl a
 ·exact .inr ⟨a,e,⟨f,(d.resolve_left a).trans i,j⟩,aa⟩
theorem iO.tW(h:iO H k n v xs b g):g=0∨g<H.next:=by
 rcases h.tf with⟨a,_⟩|⟨_,_,_,c⟩
 ·exact .inl a
 ·exact .inr c
theorem amP{xs c b:List V}(h:cz c xs a=some b):b.length=xs.length:=by
 rw[k8]at h;split at h
 ·cases h;simp only[aV,dP,g5];omega
 ·cases h
theorem iO.st(h:iO H k n v xs b g){m:Nat}{l c:List V}{w:V}(p:cz l xs a=some c)(r:Go.au.aZ w=true)(q:cellsOf w=l)(s:bn (cn l) m=true)(t:cK l=true):
 ∃i,oI m [.ptr b a,w] H=some (V.undef,i)∧iO i k n v c b g∧(∀y,y≠b→(g=0∨y≠g)→i.get y=H.get y)∧i.next=H.next:=by
 have hl:=amP p;rcases h.tf with⟨d,e⟩|⟨d,e,⟨f,o,x⟩,z⟩
 ·subst d;refine⟨H.set b (.cells c 0),?_,⟨by rw[af.aK,ao rfl],.inl ⟨rfl,e⟩,hl.trans h.len,h.lt⟩,fun y A _=>by rw[af.aK,aj (Ne.symm A)],rfl⟩;rw[aqK,h.row,RL,r,q,s,t,p];rfl
 ·have j:cE H b g xs:=⟨h.row,⟨f,o,x⟩,d⟩;have D:=j.JJ;refine⟨af.wr H b g c,ya j p r q s t,?_,fun y e o=>nq e (o.resolve_left d),rfl⟩;obtain⟨u,B,C⟩:=(j.written c).bD;exact⟨(j.written c).row,.inr ⟨d,e,⟨u,B,C⟩,z⟩,hl.trans h.len,h.lt⟩
theorem Ny{F:Fr}{bytes m:Nat}{new:List V}(h:iO H k n v xs b g)(Q:0<m)(R:0<n)(hl:new.length=m*k)(G:0<k)(J:cK new=true)(D:xs.length+new.length≤1000000000∧bytes≤1024)
 (t:∀x c j d,iO c k (n+m) x (xs++new) j d→(g=0∧H.next<d∨g≠0∧d=g)→H.next≤j→j≠d→(∀y,y<H.next→(g=0∨y≠g)→c.get y=H.get y)→H.next<c.next→e (put F i x) c):
 gk i e F (fA k bytes [v,.slice H.next 0 m (.known m)] (H.push (.cells new 0))):=by
 have P:=h.lt;have K:=h.len;have I:n+m≤(n+m)*k:=Nat.le_mul_of_pos_right _ G;rw[eu]at I;have p:iO (H.push (.cells new 0)) k n v xs b g:=h.keep (by rw[af.aY,aj aa]) (by
  rcases h.tW with h|h
  ·exact .inl h
  ·exact .inr (by rw[af.aY,aj aa])) (Nat.le_succ _)
 have E:=h.tW;have B:dX (H.push (.cells new 0)) k m (.slice H.next 0 m (.known m))=some new:=by
  show(H.push (.cells new 0)).cP H.next 0 (m*k)=some new
  rw[fI (cs:=new) (by rw[af.aY,ao rfl]),dA,iU hl]
 have s:i_ (n+m) bytes=true:=pe ⟨aa,cH (jX (aa:n+m≤1000000000) D.2) ag⟩;have A:fA k bytes [v,.slice H.next 0 m (.known m)] (H.push (.cells new 0))=jJ k bytes v m new (H.push (.cells new 0)):=by
  show an (some m) (fun n=>an (dX _ k n _) fun new=>jJ k bytes v n new _)=_;show an (dX _ k m _) _=_;rw[B];rfl
 have u:=p.cP;have w:=qy (aa:m≠0);have r:(xs++new).length=(n+m)*k:=by rw[aV,K,hl,eu]
 rw[A];rcases p.tf with⟨a,o⟩|⟨a,o,⟨f,C,M⟩,N⟩
 ·subst a o;have l:jJ k bytes (.slice b 0 n (.known n)) m new (H.push (.cells new 0))=kJ (H.push (.cells new 0)) k (n+m) (xs++new):=by
   show Bool.casesOn (motive:=fun _=>Option (V×af)) (fh m) (aQ (i_ (n+m) bytes) (Bool.casesOn (motive:=fun _=>Option (V×af)) (bL (n+m) n) (an ((H.push (.cells new 0)).cP b 0 (n*k)) fun q=>kJ (H.push (.cells new 0)) k (n+m) (cX q new)) _)) _=_;rw[w,s,u,show bL (n+m) n=false from lq.2 fun z=>by have:=kV z;omega];show kJ _ k (n+m) (cX xs new)=_;rw[iH]
  rw[l];refine t _ _ (H.next+1) (H.next+2) ⟨?_,.inr ⟨aa,rfl,⟨H.next+1,?_,aF _⟩,?_⟩,r,?_⟩ (.inl ⟨rfl,aa⟩) aa aa (fun y L _=>?_) ?_
  ·rw[af.aY,aj (by simp only[go_sem];omega),af.aY,ao (by simp only[go_sem])];rfl
  ·rw[af.aY,ao (by simp only[go_sem])];rfl
  ·simp only[go_sem];omega
  ·simp only[go_sem];omega
  ·rw[af.aY,aj (by simp only[go_sem];omega),af.aY,aj (by simp only[go_sem];omega),af.aY,aj aa]
  ·simp only[go_sem];omega
 ·subst o;have l:jJ k bytes (.slice b 0 n (.grown k)) m new (H.push (.cells new 0))=some (.slice (H.next+1) 0 (n+m) (.grown k),((H.push (.cells new 0)).push (.cells (xs++new) g)).set g (.bD (H.next+1) (H.next+1))):=by
   show Bool.casesOn (motive:=fun _=>Option (V×af)) (fh m) (aQ (i_ (n+m) bytes) (aQ (and (bn k k) (cK new)) (an ((H.push (.cells new 0)).cP b 0 (n*k)) fun q=>oW (H.push (.cells new 0)) k b (n+m) (cX q new)))) _=_;rw[w,s,J,show bn k k=true from tC k,u];show oW (H.push (.cells new 0)) k b (n+m) (cX xs new)=_;unfold oW;rw[p.row];show cR.casesOn (motive:=fun _=>Option (V×af)) ((H.push (.cells new 0)).get g) _ _ _ _=_;rw[C];show aQ (and (bn b b) (!(fh g))) _=_;rw[show bn b b=true from tC b,qy a,iH];rfl
  rw[l];have O:=E.resolve_left a;refine t _ _ (H.next+1) g ⟨?_,.inr ⟨a,rfl,⟨H.next+1,?_,aF _⟩,?_⟩,r,?_⟩ (.inr ⟨a,rfl⟩) aa aa (fun y L S=>?_) ?_
  ·rw[af.aK,aj aa,af.aY,ao (by simp only[go_sem])]
  ·rw[af.aK,ao rfl]
  ·simp only[go_sem];omega
  ·simp only[go_sem];omega
  ·rw[af.aK,aj aa,af.aY,aj (by simp only[go_sem];omega),af.aY,aj aa]
  ·simp only[go_sem];omega
end
def Dq(l:List Int)(f:Nat)(a:V)(e:List V)(R:V→Prop):Prop:=∀(H:af) (b i:Nat),5≤b→i≤l.length→H.get b=.cells (cJ l i) 0→
 c5 f (a:: .ptr b 0::e) H fun v d=>R v∧∃c,c≤l.length∧d=H.set b (.cells (cJ l c) 0)
variable{N:List Int}
theorem aq3{a:V}{e:List V}{R:V→Prop}(m:bA a)(q:bX e)
 (l:∀i,i≤N.length→c5 h (a:: .ptr 5 0::e) (af.one 5 6 (cJ N i)) fun k d=>∃c v,c≤N.length∧d.get 5=.cells (cJ N c) 0∧bO d (af.one 5 d.next (cJ N c)) k v∧bA v∧R v):Dq N h a e R:=by
 intro H b i r hi s;refine(Kk (R:=fun v j=>R v∧∃c,c≤N.length∧j=cJ N c) s (Bq N i) r ⟨0,aE⟩ (args2:=a:: .ptr 5 0::e) (.cons (g7.free m) (.cons ?_ (jZ.free q))) ?_).mono ?_
 ·have:=g7.ptr (σ:=oq 5 b) (k:=5+1) (b:=5) 0 ag;rwa[show oq 5 b 5=b from ao rfl]at this
 ·refine(l i hi).mono ?_;rintro k d ⟨c,v,f,g,n,o,p⟩;exact⟨v,cJ N c,g,Bq N c,n,o,p,c,f,rfl⟩
 ·rintro v d ⟨j,⟨f,c,g,rfl⟩,rfl⟩;exact⟨f,c,g,rfl⟩
theorem arK{a:V}{f:List V}{R:V→Prop}(j:Dq N h a f R)(n:5≤u)(hi:L≤N.length)(o:c.get u=.cells (cJ N L) 0)
 (p:∀v d,R v→d≤N.length→e (put m i v) (c.set u (.cells (cJ N d) 0))):oM eO 5 i e m c (some (.fn h,a:: .ptr u 0::f)):=
 (j c u L n hi o).mono fun v q ⟨k,d,l,g⟩=>by rw[g];exact p v d k l
theorem B9(n:Nat)(x:kX):bn (cn (cA n x)) 9=true∧cK (cA n x)=true∧∀a b c d e f g h i:V,cz (cA n x) [a,b,c,d,e,f,g,h,i] 0=some (cA n x):=by
 rcases x with⟨_,_,_,_⟩|(_|_|⟨b,_⟩)
 ·exact⟨rfl,rfl,fun _ _ _ _ _ _ _ _ _=>rfl⟩
 ·exact⟨rfl,rfl,fun _ _ _ _ _ _ _ _ _=>rfl⟩
 ·exact⟨rfl,rfl,fun _ _ _ _ _ _ _ _ _=>rfl⟩
 ·cases b<;>exact⟨rfl,rfl,fun _ _ _ _ _ _ _ _ _=>rfl⟩
theorem ant(n:Nat)(x:kX):cj (cA n x) 9=some (cA n x):=iU (n5 n x)
def xy:List V:=[ah 0,aC,.ak,aC,.ak]
theorem al6(l:List Int)(hl:l.length≤400)(i:ir l)(p:fc)(e:p.az)(s:List b9)(h:s.length=p.n)(g:∀x∈s,iE 90 x):Dq l 78 (.agg xy) [fJ p,c8 s] fun v=>∃f:p7,q2 p (s.map eC) f∧v=.agg (cA p.n (.leaf f)):=by
 have a:=amh l hl i p e s h g;refine aq3 (.agg (.cons (.int _ _) (.cons (.bool _) (.cons .ak (.cons (.bool _) (.cons .ak .nil)))))) (.cons (oz _) (.cons (lE _) .nil)) fun q c=>cN Tryz.f78 (h:=?_)
 simp only[fJ]at a;simp only[go_sem,xy,fJ,c4];refine eV a ag c ?_ ?_
 ·simp only[go_sem,mI,c4]
 rintro _ j ⟨f,b,rfl⟩ d;obtain⟨k,m,o⟩:=B9 p.n (.leaf f);simp only[go_sem,c4,k,m,o,ant];exact⟨j,_,d,rfl,.same _,.agg (nj _ _),f,b,rfl⟩
end
section
open Go.au Go.aD
set_option maxRecDepth 100000
attribute [local irreducible] rd kc ex bF bC re rg mv bN pick alloc box bi bs ba be bq st fa b6 cF cZ cQ c9 dO dN ms cY dF dD dn mx mn dm ap dy cw dr dw bY dx ext dJ neg Go.au.not dG dB dI dH dM dK dz dL dc c_ u8
def nZ(i:Nat):Nat:=if i=0 then 9 else if i≤2 then 25 else 57
def yw(k m:Nat)(l:List b9):Prop:=l.length=m∧∀x∈l,iE k x∧(x.hl=true→x.hh=true→x.lo<x.hi)
structure r4 (p:fc) (b:List b9) (n N:Nat) (t:aN):Prop where
 CA:t.s≤3
 nn:n≤2*t.s+1
 Bf:N=2*min n t.s+1
 b0:t.bs 0=b
 wV:∀i,i<N→yw (nZ i) p.n (t.bs i)
 sp:∀i,i<min n t.s→t.v i<p.n∧bg 81 (t.a i)∧oX (t.a i) ((t.bs i).getD (t.v i) jb)∧t.bs (2*i+1)=qD (t.bs i) (t.v i) (t.a i)∧t.bs (2*i+2)=qK (t.bs i) (t.v i) (t.a i)
 gp:∀i,t.s≤i→i<n→q2 p (t.cv i) (t.gp i)
theorem r4.leaf{p:fc}{b:List b9}{t:aN}(c:r4 p b a h t)(j:t.s≤a)(k:a<h){f:p7}(g:q2 p (t.cv a) f):r4 p b (a+1) h { t with gp:=fun i=>if i=a then f else t.gp i }:=by
 have b5:=c.Bf;have m:=c.nn;refine⟨c.CA,by show a+1≤2*t.s+1;omega,by show h=2*min (a+1) t.s+1;omega,c.b0,c.wV,fun i hi=>c.sp i (by change i<min (a+1) t.s at hi;omega),fun i d l=>?_⟩;show q2 p (t.cv i) (if i=a then f else t.gp i);by_cases e:i=a
 ·subst e;rw[ao rfl];exact g
 ·rw[aj e];exact c.gp i d aa
theorem Gc(i:Nat):nZ i≤57:=by unfold nZ;split;decide;split;decide;decide
theorem al9(h:a≤2):nZ a+nZ a+7≤nZ (2*a+1)∧nZ (2*a+1)=nZ (2*a+2)∧nZ a≤nZ (2*a+1):=by
 have:a=0∨a=1∨a=2:=aa;rcases this with rfl|rfl|rfl<;>decide
theorem TR{l:List b9}(c:yw h L l){i:Nat}(hi:i<L){a:Rat}(p:bg u a)(b:h≤u)(g:oX a (l.getD i jb)):yw u L (qD l i a)∧yw u L (qK l i a):=by
 obtain⟨o,f⟩:=c;obtain⟨y,r,q⟩:=iR (aa:i<l.length);have j:l.getD i jb=y:=by rw[cy,q];rfl
 obtain⟨⟨s,t⟩,v⟩:=f y r;rw[j]at g;refine⟨⟨by unfold qD;rw[gE];exact o,fun x d=>?_⟩,⟨by unfold qK;rw[gE];exact o,fun x d=>?_⟩⟩
 ·unfold qD at d;rcases List.mem_or_eq_of_mem_set d with c|rfl
  ·obtain⟨⟨k,m⟩,n⟩:=f x c;exact⟨⟨k.mono b,m.mono b⟩,n⟩
  ·rw[j];exact⟨⟨s.mono b,p⟩,fun e _=>g.1 e⟩
 ·unfold qK at d;rcases List.mem_or_eq_of_mem_set d with c|rfl
  ·obtain⟨⟨k,m⟩,n⟩:=f x c;exact⟨⟨k.mono b,m.mono b⟩,n⟩
  ·rw[j];exact⟨⟨p,t.mono b⟩,fun _ e=>g.2 e⟩
def aN.rR(t:aN)(n q:Nat)(a:Rat):aN:= { t with v:=fun i=>if i=n then q else t.v i,a:=fun i=>if i=n then a else t.a i,bs:=fun i=>if i=2*n+1 then qD (t.bs n) q a else if i=2*n+2 then qK (t.bs n) q a else t.bs i }
theorem r4.split{p:fc}{b:List b9}{t:aN}(c:r4 p b h u t)(B:h<t.s){a:Rat}(l:L<p.n)(j:bg (nZ h+nZ h+7) a)(k:oX a ((t.bs h).getD L jb)):r4 p b (h+1) (u+2) (t.rR h L a):=by
 have b5:=c.Bf;have y:=c.CA;obtain⟨z,A,bB⟩:=al9 (aa:h≤2);obtain⟨r,w⟩:=TR (c.wV h aa) l (j.mono z) bB k;have d:∀i,i≠2*h+1→i≠2*h+2→(t.rR h L a).bs i=t.bs i:=fun i f g=>by
  show(if i=2*h+1 then _ else if i=2*h+2 then _ else t.bs i)=_;rw[aj f,aj g]
 have hl:(t.rR h L a).bs (2*h+1)=qD (t.bs h) L a:=ao rfl;have m:(t.rR h L a).bs (2*h+2)=qK (t.bs h) L a:=by
  show(if 2*h+2=2*h+1 then _ else if 2*h+2=2*h+2 then _ else t.bs _)=_;rw[aj aa,ao rfl]
 have o:∀i,i≠h→(t.rR h L a).v i=t.v i∧(t.rR h L a).a i=t.a i:=fun i e=>⟨aj e,aj e⟩
 have q:(t.rR h L a).v h=L∧(t.rR h L a).a h=a:=⟨ao rfl,ao rfl⟩;refine⟨y,by show h+1≤2*t.s+1;omega,by show u+2=2*min (h+1) t.s+1;omega,by rw[d 0 aa aa];exact c.b0,fun i hi=>?_,fun i hi=>?_,fun i x C=>?_⟩
 ·by_cases f:i=2*h+1
  ·subst f;rw[hl];exact r
  ·by_cases g:i=2*h+2
   ·subst g;rw[m,←A];exact w
   ·rw[d i f g];exact c.wV i aa
 ·change i<min (h+1) t.s at hi;rw[d i aa aa];by_cases e:i=h
  ·subst e;rw[q.1,q.2,hl,m];exact⟨l,j.mono (by have:=Gc (2*i+1);omega),k,rfl,rfl⟩
  ·rw[(o i e).1,(o i e).2,d (2*i+1) aa aa,d (2*i+2) aa aa];exact c.sp i aa
 ·change t.s≤i at x;omega
theorem r4.ok{p:fc}{b:List b9}{t:aN}(h:r4 p b (2*t.s+1) a t)(f:∀x∈b,iE 9 x∧(x.hl=true→x.hh=true→x.lo<x.hi)):t.az p:=by
 have b5:=h.Bf;refine⟨h.CA,fun n c=>(h.wV n aa).1,fun n c x d=>?_,fun n c=>(h.sp n aa).1,fun n c=>(h.sp n aa).2.1,fun n c=>(h.sp n aa).2.2.1,fun n c=>(h.sp n aa).2.2.2.1,fun n c=>(h.sp n aa).2.2.2.2,fun n e j=>h.gp n e aa,fun x d=>f x (by rw[←h.b0];exact d)⟩;obtain⟨g,i⟩:=((h.wV n aa).2 x d).1;have:=Gc n;exact⟨g.mono aa,i.mono aa⟩
theorem Rb(b:f→List V):∀m:List f,jD (m.map b)=br b m
 |[]=>rfl
 |a::m=>by show b a++jD (m.map b)=b a++br b m;rw[Rb b m]
def SI(b d a c:Nat):Prop:=b≠a∧(d=0∨d≠a∧d≠c∧d≠b∧12≤d)∧(c=0∨c≠b∧c≠a∧12≤c)∧10≤b∧b≠11∧10≤a∧a≠11
def tn:List V:=[ah 0,ah 0,.str [],ah 0,ah 0,ah 0,.ak,.ak,ah 0]
structure SJ (l:List Int) (p:fc) (b:List b9) (TF:Rat) (k:Nat) (F:Fr) (H:af) (n N:Nat) (t:aN) (L:List (List V)) (ys:List V) (Sg:V) (JC Oo:Nat) (Se:V) (JB On:Nat):Prop where
 au4:k=2*t.s+1-n
 d:r4 p b n N t
 f:rd 0 F=.ptr 5 0∧rd 7 F=.ptr 6 0∧rd 11 F=.ptr 8 0∧rd 12 F=.ptr 9 0∧rd 13 F=.ptr 11 0∧rd 14 F=Se∧rd 15 F=ah ((t.s-n:Nat):Int)∧rd 16 F=ah (n:Int)
 tp:∃i,i≤l.length∧H.get 5=.cells (cJ l i) 0
 avc:H.get 6=.cells [ah (p.n:Int),ah (p.n:Int),bJ p.obj,gd p.n p.is,gd p.n p.es] 0
 eY:H.get 8=.cells [ah 0,aC,.ak,aC,.ak] 0
 cW:H.get 9=.cells [.ak,.str [],.ak] 0
 iy:H.get 11=.cells [bu bR (b.map eC),.str (bf TF),Sg] 0
 awA:iO H 9 N Sg (jD L) JC Oo
 atE:L.length=N∧(∀r∈L,r.length=9)∧∀i,i<n→L[i]? =some (cA p.n (t.nd i))
 awz:iO H 1 N Se ys JB On
 atD:∀i,i<N→ys[i]? =some (c8 (t.bs i))
 auZ:SI JC Oo JB On
 hn:12≤H.next
variable{N:List Int}
theorem IE{H:af}{v:V}(d:iO H a h v b u L)(e:hM N H.next H c)(f:u≠5)(h2:L=0∨L≠5):iO c a h v b u L:=
 d.keep (e.k u d.lt f) (by
  rcases d.tW with h3|h3
  ·exact .inl h3
  ·rcases h2 with h2|h2
   ·exact .inl h2
   ·exact .inr (e.k L h3 h2)) e.n.1
set_option maxHeartbeats 2000000 in
theorem ah7(l:List Int)(hl:l.length≤400)(hz:ir l)(p:fc)(hp:p.az)(b:List b9)(hb:yw 9 p.n b)(j:Rat)(fw:bg 81 j):lC l 33 [fJ p,c8 b,bz j,ah 3,.agg xy] fun v=>∃t:aN,t.az p∧t.bs 0=b∧v=.agg (fP t p.n j):=by
 have hn:=hp.n;have dC:=k_ l hl hz;obtain⟨fv,a'⟩:=hb;have d8:=asr b 9 ag aa (fun G hs=>(a' G hs).1);have d2:=s9 j fw ag;refine n8 (.cons (oz _) (.cons (lE _) (.cons (fT _) (.cons (.int _ _) (.cons (.agg (.cons (.int _ _) (.cons (.bool _) (.cons .ak (.cons (.bool _) (.cons .ak .nil)))))) .nil))))) fun i0 f0=>cN Tryz.f33 (h:=?_)
 simp only[go_sem,xy,fJ,bz,bk,hY,c4]at d2 d8⊢;refine use d8 ?_;simp only[go_sem,c4];refine use d2 ?_;simp only[go_sem,c4];refine eV (dC 4 ag) ag f0 ?_ ?_
 ·simp only[go_sem,mI,c4]
 rintro _ i1 ⟨G,hs,rfl⟩ f1;simp only[go_sem];refine bK (fun ea F H=>∃c N t L V I B w ce Q C,SJ l p b j ea F H c N t L V I B w ce Q C) (2*G+1) ⟨0,1,⟨G,fun _=>0,fun _=>0,fun _=>.jO,fun _=>b⟩,[tn],[c8 b],.slice 10 0 1 (.known 1),10,0,.slice 12 0 1 (.known 1),12,0,⟨rfl,⟨by show G≤3;omega,b4 _,?_,rfl,fun i hi=>?_,fun i hi=>?_,fun i h1 h2=>(m5 _ h2).elim⟩,?_,⟨i1,f1,?_⟩,?_,?_,?_,?_,⟨?_,.inl ⟨rfl,rfl⟩,rfl,?_⟩,⟨rfl,fun r D=>?_,fun i hi=>(m5 _ hi).elim⟩,⟨?_,.inl ⟨rfl,rfl⟩,rfl,?_⟩,fun i hi=>?_,⟨ag,.inl rfl,.inl rfl,ag,ag,ag,ag⟩,?_⟩⟩ ?_
 ·show 1=2*min 0 G+1;omega
 ·have:i=0:=aa;subst this;exact⟨fv,a'⟩
 ·change i<min 0 G at hi;omega
 ·simp only[go_sem,c4];simp
 iterate 5 simp only[go_sem,c4]
 ·simp only[go_sem,c4];rfl
 ·simp only[go_sem,c4]
 ·rw[ec.1 D];rfl
 iterate 2 simp only[go_sem,c4]
 ·have:i=0:=aa;subst this;rfl
 ·simp only[go_sem,c4];omega
 rintro ea F H ⟨c,N,t,L,V,I,B,w,ce,Q,C,⟨hg,o,⟨R,f7,a5,a6,u,a7,ac,z⟩,⟨i2,ba,a8⟩,dd,eY,cW,iy,E,⟨co,X,a0⟩,M,aw,da,ht⟩⟩;have b5:=o.Bf;have hv:=o.CA;have hr:=o.nn;have ae:=E.amn;by_cases h:c<N
 ·have c1:((c:Int)<(N:Int))=True:=eq_true aa;have ds:=M.b6 (i:=(c:Int)) (ik:=.i64) aa;have du:=M.bq 1 c;rw[Gh,gO,aw c h]at du;obtain⟨yN,u9⟩:=o.wV c h;have hA:c3 (c8 (t.bs c))=some (.val (ah ((t.bs c).length:Int))):=rfl;simp only[go_sem]at ds;simp only[go_sem,R,f7,u,a7,ac,z,iy,dd,ae,c1,ds,du];refine eV (dC p.n ⟨aa,aa⟩) ag ba a8 ?_;rintro _ i3 ⟨q,hq,rfl⟩ f2;obtain⟨x,f8,A⟩:=iR (aa:q<(t.bs c).length);obtain⟨⟨g2,g'⟩,hc⟩:=u9 x f8;have D:=gi mb A;have ho:=Gc c;have d9:(t.bs c).getD q jb=x:=by rw[cy,A];rfl
  simp(disch:=omega)only[go_sem,c8,eU,D,R];refine eV (Tx l hl hz x (nZ c) (nZ c) aa g2 g' hc) ag f2 ?_ ?_
  ·simp only[go_sem]
  rintro _ i4 ⟨a,ha,dk,rfl⟩ dq;simp only[go_sem,bz,bk,ac];obtain⟨d1,Y,d3,d4,d5,d6,d7⟩:=da;have he:=E.lt;have hd:=M.lt;have hk:=E.tW;have hj:=M.tW;have hy:hM l H.next H H:=⟨⟨i2,ba,a8⟩,fun _ _ _=>rfl,aF _,aa⟩
  obtain⟨g,m⟩:∃g,g=(((H.set 5 (.cells (cJ l i3) 0)).set 5 (.cells (cJ l i4) 0)).push (.cells [aC,.ak,aC,.ak] 0)).set H.next (.cells (bk a) 0):=⟨_,rfl⟩
  have K:hM l H.next H g:=by rw[m];exact Gd
  have a1:g.get H.next=.cells (bk a) 0:=by rw[m];simp only[go_sem]
  have y1:g.next=H.next+1:=by rw[m];rfl
  have es:g.get 5=.cells (cJ l i4) 0:=by rw[m];simp only[go_sem,bG (aa:5<H.next)]
  simp only[bk]at m a1;rw[←m];clear m;have ca:=IE E K aa aa;have eh:=IE M K aa aa;have cd:=(K.k 6 aa ag).trans dd;have u8:=(K.k 8 aa ag).trans eY;have et:=(K.k 9 aa ag).trans cW;have O:=(K.k 11 aa ag).trans iy;have bb:=ca.b6 (i:=(c:Int)) (ik:=.i64) aa;simp only[go_sem]at bb;have w1:aB .i64 ((c:Int)+1)=((c+1:Nat):Int):=by rw[aI _ aa];omega
  have e':∀x∈t.bs c,iE 90 x:=fun x A=>⟨(u9 x A).1.1.mono aa,(u9 x A).1.2.mono aa⟩
  by_cases f5:t.s≤c
  ·have c2:(((t.s-c:Nat):Int)=0)=True:=eq_true aa;have dt:=al6 l hl hz p hp (t.bs c) yN e';simp only[xy,fJ,c8]at dt;simp only[go_sem,c2,R,f7,a5,u,z,cd,u8,O];refine arK dt ag dq es ?_;rintro _ i5 ⟨f,hf,rfl⟩ f3;obtain⟨n1,n2,gc⟩:=B9 p.n (.leaf f);have ap:=ca.keep (H':=g.set 5 (.cells (cJ l i5) 0)) (by rw[af.aK,aj aa]) (by
    rcases Y with d|d
    ·exact .inl d
    ·exact .inr (by rw[af.aK,aj aa])) (aF _)
   obtain⟨H2,T,ar,W,cf⟩:=ap.st (Cx L c (cA p.n (.leaf f)) X (n5 _ _) aa) rfl rfl n1 n2 (w:=.agg (cA p.n (.leaf f))) (m:=9);have P:∀y,y≠B→(w=0∨y≠w)→y≠5→H2.get y=g.get y:=fun y q1 eb ge=>by rw[W y q1 eb,af.aK,aj aa]
   simp only[go_sem,O,bb,T,z,w1];refine⟨2*t.s+1-(c+1),aa,c+1,N, { t with gp:=fun i=>if i=c then f else t.gp i },_,V,I,B,w,ce,Q,C,⟨rfl,o.leaf f5 h hf,⟨?_,?_,?_,?_,?_,?_,?_,?_⟩,⟨i5,f3,?_⟩,?_,?_,?_,?_,ar,⟨?_,?_,?_⟩,eh.keep ?_ ?_ ?_,aw,⟨d1,Y,d3,d4,d5,d6,d7⟩,?_⟩⟩
   iterate 6 simp only[go_sem,R,f7,a5,a6,u,a7]
   ·simp only[go_sem,ac];rw[(aa:t.s-c=t.s-(c+1))]
   ·simp only[go_sem]
   ·rw[W 5 aa aa,af.aK,ao rfl]
   ·rw[P 6 aa aa ag];exact cd
   ·rw[P 8 aa aa ag];exact u8
   ·rw[P 9 aa aa ag];exact et
   ·rw[P 11 aa aa ag];exact O
   ·rw[gE];exact co
   ·intro r D;rcases List.mem_or_eq_of_mem_set D with h|rfl
    ·exact X r h
    ·exact n5 _ _
   ·intro i hi;rw[r7];by_cases e:c=i
    ·subst e;rw[ao rfl,ao aa];unfold aN.nd;rw[aj (by show¬c<t.s;omega)];show _=some (cA p.n (.leaf (if c=c then f else t.gp c)));rw[ao rfl]
    ·rw[aj e,a0 i aa];unfold aN.nd;show some (cA p.n (if i<t.s then _ else .leaf (t.gp i)))=some (cA p.n (if i<t.s then _ else .leaf (if i=c then f else t.gp i)));rw[aj (Ne.symm e)]
   ·exact P Q aa aa aa
   ·rcases d3 with d|d
    ·exact .inl d
    ·exact .inr (P C aa aa aa)
   ·rw[cf];exact aF _
   ·rw[cf];show 12≤g.next;omega
  ·have c2:(((t.s-c:Nat):Int)=0)=False:=eq_false aa;have w2:aB .i64 (((t.s-c:Nat):Int)-1)=((t.s-(c+1):Nat):Int):=by rw[aI _ aa];omega
   have dp:=G_ (t.bs c) ⟨aa,aa⟩ q aa a (ha.mono aa) (fun x A=>⟨(u9 x A).1.1.mono aa,(u9 x A).1.2.mono aa⟩) (by rw[d9];exact dk);have d0:=s9 a (ha.mono (aa:_≤200)) ag;simp only[c8,bz,bk]at dp d0;have hB:=bG (aa:5<H.next)
   have w3:aB .i64 ((N:Int)+1)=((2*c+2:Nat):Int):=by rw[aI _ aa];omega
   have g1:(N:Int)=((2*c+1:Nat):Int):=aa;simp only[go_sem,c2,w2,u,ac,z,a1];refine use dp ?_;simp only[go_sem,u,z,O,a1,ae,w3];refine use d0 ?_;obtain⟨n1,n2,gc⟩:=B9 p.n (.split q a (2*c+1) (2*c+2));obtain⟨H2,T,ar,W,cf⟩:=ca.st (Cx L c (cA p.n (.split q a (2*c+1) (2*c+2))) X (n5 _ _) aa) rfl rfl n1 n2 (w:=.agg (cA p.n (.split q a (2*c+1) (2*c+2)))) (m:=9);simp only[cA]at T;rw[←g1]at T;have ev:=(W 11 aa aa).trans O;simp only[go_sem,u,z,O,ae,w3,bb,T,ev];refine Ny (bytes:=112) (m:=2) (new:=tn++tn) ar ag aa rfl ag rfl ⟨by rw[ar.len];show N*9+18≤_;omega,ag⟩ fun U J cp g3 em q1 eb ge ed hE=>?_
   have fa:=(ed 11 aa aa).trans ev;obtain⟨p3,b1,b2⟩:=em.aZ;have cb:=em.keep (H':=J.set 11 (.cells [bu bR (b.map eC),.str (bf j),U] 0)) (by rw[af.aK,aj aa]) (by
    rcases q1 with⟨_,d⟩|⟨d,e⟩
    ·exact .inr (by rw[af.aK,aj aa])
    ·exact .inr (by rw[af.aK,aj aa])) (aF _)
   have be:∀y,y<H.next→y≠B→(w=0∨y≠w)→y≠11→(J.set 11 (.cells [bu bR (b.map eC),.str (bf j),U] 0)).get y=g.get y:=fun y m Z ab a4=>by
    rw[af.aK,aj (Ne.symm a4),ed y aa ab,W y Z ab]
   have el:=eh.keep (H':=J.set 11 (.cells [bu bR (b.map eC),.str (bf j),U] 0)) (be Q aa aa aa aa) (by
    rcases d3 with d|d
    ·exact .inl d
    ·exact .inr (be C aa aa aa aa)) (by show g.next≤J.next;omega)
   have bo:(J.set 11 (.cells [bu bR (b.map eC),.str (bf j),U] 0)).next=J.next:=rfl
   simp only[go_sem,u,a7,fa,p3,b1,b2];refine Ny (bytes:=24) (m:=2) (new:=[bu eB (nU (t.bs c) q a).1,bu eB (nU (t.bs c) q a).2]) el ag aa rfl ag rfl ⟨by rw[el.len];show N*1+2≤_;omega,ag⟩ fun v4 H4 e2 g4 gs r1 r2 hF S go=>?_
   rw[bo]at r1 r2 S go;have e1:=cb.lt;have fp:=cb.tW;rw[bo]at e1 fp;simp only[go_sem,z,w1];have am:∀y,y<H.next→y≠B→(w=0∨y≠w)→y≠11→(C=0∨y≠C)→H4.get y=g.get y:=fun y m Z ab a4 fb=>(S y aa fb).trans (be y m Z ab a4)
   have eq:=cb.keep (H':=H4) (S cp aa aa) (by
    by_cases e:g3=0
    ·exact .inl e
    ·exact .inr (S g3 aa aa)) (by rw[bo];omega)
   have hw:=M.len;have f6:=o.split aa aa ha (by rw[d9];exact dk);have fg:∀i,i<N→(t.rR c q a).bs i=t.bs i:=fun i hi=>by
    show(if i=2*c+1 then _ else if i=2*c+2 then _ else t.bs i)=_;rw[aj aa,aj aa]
   have fn:jD (L.set c (cA p.n (.split q a (2*c+1) (2*c+2))))++(tn++tn)=jD (L.set c (cA p.n (.split q a (2*c+1) (2*c+2)))++[tn,tn]):=by
    unfold jD;rw[pK];show _=_++(tn++(tn++[]));rw[fN]
   rw[fn]at eq;refine⟨2*t.s+1-(c+1),aa,c+1,N+2,t.rR c q a,_,_,U,cp,g3,v4,e2,g4,⟨rfl,f6,⟨?_,?_,?_,?_,?_,?_,?_,?_⟩,⟨i4,dq,?_⟩,?_,?_,?_,?_,eq,⟨?_,?_,?_⟩,gs,?_,⟨aa,aa,aa,aa,aa,aa,aa⟩,aa⟩⟩
   iterate 6 simp only[go_sem,R,f7,a5,a6,u]
   ·simp only[go_sem];rfl
   ·simp only[go_sem]
   ·exact(am 5 aa aa aa aa aa).trans es
   ·exact(am 6 aa aa aa aa aa).trans cd
   ·exact(am 8 aa aa aa aa aa).trans u8
   ·exact(am 9 aa aa aa aa aa).trans et
   ·rw[S 11 aa aa,af.aK,ao rfl]
   ·rw[aV,gE,co];rfl
   ·intro r D;rcases hN.1 D with h|h
    ·rcases List.mem_or_eq_of_mem_set h with h|rfl
     ·exact X r h
     ·exact n5 _ _
    ·simp only[jr,q3,or_false]at h;rcases h with rfl|rfl<;>rfl
   ·intro i hi;rw[p8 (by rw[gE];omega),r7];by_cases e:c=i
    ·subst e;rw[ao rfl,ao aa];unfold aN.nd;rw[ao (by show c<t.s;omega)];show _=some (cA p.n (.split (if c=c then q else t.v c) (if c=c then a else t.a c) (2*c+1) (2*c+2)));rw[ao rfl,ao rfl]
    ·rw[aj e,a0 i aa];unfold aN.nd;rw[ao aa,ao (by show i<t.s;omega)];show _=some (cA p.n (.split (if i=c then q else t.v i) (if i=c then a else t.a i) (2*i+1) (2*i+2)));rw[aj (Ne.symm e),aj (Ne.symm e)]
   ·intro i hi;by_cases e:i<N
    ·rw[p8 aa,fg i e];exact aw i e
    ·rw[tv aa];by_cases Z:i=N
     ·rw[(aa:i-V.length=0)];show some _=some (c8 (if i=2*c+1 then _ else _));rw[ao aa];rfl
     ·rw[(aa:i-V.length=1)];show some _=some (c8 (if i=2*c+1 then _ else if i=2*c+2 then _ else _));rw[aj aa,ao aa];rfl
 ·have c1:((c:Int)<(N:Int))=False:=eq_false aa;have bF:c=2*t.s+1∧N=2*t.s+1:=aa;obtain⟨fi,hh⟩:=bF;obtain⟨d1,Y,d3,d4,d5,d6,d7⟩:=da;obtain⟨p3,b1,b2⟩:=E.aZ;have fd:L=t.de.map (cA p.n):=by
   refine uQ fun i=>?_
   by_cases hi:i<c
   ·rw[a0 i hi,aN.de,iW,iW,tw aa];rfl
   ·rw[m0 aa,m0 (by rw[iu,aN.de,iu,List.length_range];omega)]
  rw[fd,Rb]at E;have ap:=E.keep (H':=H.set 9 (.cells [bu bR (b.map eC),.str (bf j),I] 0)) (by rw[af.aK,aj aa]) (by
   rcases Y with d|d
   ·exact .inl d
   ·exact .inr (by rw[af.aK,aj aa])) (aF _)
  simp only[go_sem,a6,u,z,cW,iy,ae,c1,p3,b1,b2];rw[fi]at o;have dl:bO (H.set 9 (.cells [bu bR (b.map eC),.str (bf j),I] 0)) (af.one 5 H.next (cJ l i2)) I (bu (cA p.n) t.de):=by
   have f4:t.de.length=N:=by rw[aN.de,iu,List.length_range];omega
   have hm:=ap.cP;have h0:(af.one 5 H.next (cJ l i2)).get B=.none:=by rw[af.k6,aj aa]
   show bO _ _ I (.row t.de.length (br (cA p.n) t.de));rw[f4];rcases ap.tf with⟨_,rfl⟩|⟨_,rfl,_⟩
   ·exact .row hm aa h0 (cD.refl _)
   ·exact .row hm aa h0 (cD.refl _)
  have e0:(b.map eC)=t.cv 0:=by unfold aN.cv;rw[o.b0]
  refine⟨i2,.agg (fP t p.n j),ba,a8,.agg ?_,.agg (NV _ _ _),t,o.ok a',o.b0,rfl⟩;rw[e0];rw[e0]at dl;exact .cons (.same _) (.cons (.same _) (.cons dl .nil))
theorem ap5(l:List Int)(A:ir l)(H:af)(D:5≤H.next):c5 23 [mm l] H fun v b=>∃(p:fc) (t:aN) (d:Rat) (i:Nat),p.az∧t.az p∧bg 81 d∧i≤(l.take 400).length∧v=.aA [.ptr (H.next+2) 0,fJ p,.agg (fP t p.n d)]∧b.get (H.next+2)=.cells (cJ (l.take 400) i) 0∧(∀y,y<H.next→b.get y=H.get y)∧H.next+3≤b.next:=by
 have a:(l.take 400).length≤400:=by rw[dP];omega
 have jj:ir (l.take 400):=fun z B=>A z (uS B)
 refine cN Tryz.f23 (h:=?_);simp only[go_sem];refine(anF l _).mono ?_;rintro _ _ ⟨rfl,rfl⟩;simp only[go_sem];refine eV (al' (l.take 400) a jj) aa (b4 _) ?_ ?_
 ·simp only[go_sem]
 rintro _ J ⟨p,c,rfl⟩ j;have F:=c.n;simp(disch:=omega)only[go_sem,fJ,dU];refine eV (k_ (l.take 400) a jj 4 ag) aa j ?_ ?_
 ·simp(disch:=omega)only[go_sem,dU]
 rintro _ K ⟨k,E,rfl⟩ m;simp(disch:=omega)only[go_sem,dU];refine eV (TJ (l.take 400) a jj p.n aa (decide (0<(k:Int)))) aa m ?_ ?_
 ·simp(disch:=omega)only[go_sem,dU]
 rintro _ L ⟨s,u,g,rfl⟩ o;simp(disch:=omega)only[go_sem,dU];refine eV (Ik (l.take 400) a jj 3 ag) aa o ?_ ?_
 ·simp(disch:=omega)only[go_sem,dU]
 rintro _ M ⟨z,N,O,rfl⟩ q;have e:bg 81 (z:Rat):=bg.ofInt (by have:z.natAbs<2^81:=e_ (aa:z.natAbs≤3) ag;omega) ag;have f:=ah7 (l.take 400) a jj p c s ⟨u,fun x h=>⟨(g x h).1,fun _ _=>(g x h).2⟩⟩ (z:Rat) e;simp only[fJ,xy]at f;simp(disch:=omega)only[go_sem,dU];refine eV f aa q ?_ ?_
 ·simp(disch:=omega)only[go_sem,dU]
 rintro _ C ⟨t,w,G,rfl⟩ r;simp(disch:=omega)only[go_sem,fP,nY,dU];refine⟨p,t,(z:Rat),C,c,w,e,r,rfl,?_,fun y I=>?_,aa⟩
 ·simp(disch:=omega)only[go_sem,dU]
 ·simp(disch:=omega)only[go_sem,dU]
theorem zR(q:Rat)(a:bg 100 q):aS 44 [.str (bf q)] (.aA [bz q,bE]):=by
 have h:=zA (bf q) (by have:=CY a;omega);rwa[G3]at h
theorem apk(n:Nat)(hn:n=1∨n=2)(p:List ax)(I:iX n p):aS 315 [gv n p] (.aA [gD n p,bE]):=by
 have ci:=I.len;refine gh (.cons (.agg (Br n p)) .nil) (cN Tryz.f315 (h:=?_));have c1:((n:Int)<0)=False:=eq_false aa;have c2:((6:Int)<(n:Int))=False:=eq_false aa;simp only[go_sem,gv,bS,c1,c2];refine Nt p.length [1,2,4] 7 (fun m H=>8≤H.next∧∃v g,H.get 7=.cells [ah (n:Int),v] 0∧aH H 5 v (di (p.take m)) g∧(g=0∨7<g)) ?_ aa ag (kV rfl) ⟨aF 8,.ak,0,by simp only[go_sem],.nil,.inl rfl⟩ ?_ ?_ ?_
 ·simp only[go_sem]
 ·intro m D d a hh hi K z;simp only[go_sem]at a;have h:d.get 5=.cells (bS n p) 0:=by rw[hh.1 5 ag];simp only[go_sem,bS]
  have bs:c3 (eD p)=some (.val (ah (p.length:Int))):=rfl;simp only[go_sem,a,hi,h,bS,bs,oc];refine z _ ?_ ?_ ?_
  iterate 3 simp only[go_sem,a,hi]
 ·rintro m D d hm a hh hi ⟨h8,v,g,bh,r,bd⟩;simp only[go_sem]at a;have h:d.get 5=.cells (bS n p) 0:=by rw[hh.1 5 ag];simp only[go_sem,bS]
  have L:d.get 6=.cells [ah 0,.ak] 0:=by rw[hh.1 6 ag];simp only[go_sem]
  obtain⟨c,bo,P⟩:=iR hm;have l:=I.t c bo;have W:=C7 P;have h0:=vF W;have o:cO (jd p) (m*2+1)=some (bI c.2):=Gj W rfl;have A:=bG (aa:5<d.next)
  have bv:=bG (aa:7<d.next)
  have ad:=zU c.1;have e1:((if c.1.num<0 then(-1:Int)else if c.1.num=0 then 0 else 1)=0)=False:=eq_false (by
   have:=l.nz;split<;>omega)
  have e2:((c.2.length:Int)=(n:Int))=True:=eq_true (by have:=l.len;omega);simp(disch:=omega)only[go_sem,a,hi,h,bS,pz,h0];refine use (zR c.1 l.q) ?_;simp(disch:=omega)only[go_sem,bz,bk,a,hi,h,A,bS,pz,o];simp only[bz,bk]at ad;refine use ad ?_;simp(disch:=omega)only[go_sem,a,hi,h,A,bS,pz,o,e1,e2];refine Nt n [1,2,4,5,6] (d.next+1) (fun _ _=>True) ?_ aa ag (by simp only[go_sem];omega) trivial ?_ ?_ ?_
  ·simp only[go_sem]
  ·intro j E e b f G K z;simp only[go_sem,a]at b;have qq:e.get 5=.cells (bS n p) 0:=by rw[f.1 5 aa];simp only[go_sem,A,h]
   simp only[go_sem,b,G,qq,bS,oc];refine z _ ?_ ?_ ?_
   iterate 3 simp only[go_sem,a,b,G]
  ·intro j E e hj b f G _;simp only[go_sem,a]at b;have qq:e.get 5=.cells (bS n p) 0:=by rw[f.1 5 aa];simp only[go_sem,A,h]
   have N:j<c.2.length:=by have:=l.len;omega
   have Z:=n3 N;obtain⟨x,hx⟩:∃x,x=c.2.getD j 0:=⟨_,rfl⟩;have co:x≤24:=by
    have:x∈c.2:=by rw[hx,cy,cx N];exact wB N
    have:=Pf this;have:=l.sum;omega
   rw[←hx]at Z;have f1:((x:Int)<0)=False:=eq_false aa;have f2:((1048576:Int)<(x:Int))=False:=eq_false aa;have Y:rd 5 E=ah (m:Int):=by rw[b.2.2.2.1];exact hi
   simp(disch:=omega)only[go_sem,a,b,hi,G,Y,qq,bS,pz,nV,o,Z,f1,f2];exact kb
  ·intro E e b f _;simp only[go_sem,a]at b;have qq:e.get 5=.cells (bS n p) 0:=by rw[f.1 5 aa];simp only[go_sem,A,h]
   have Bz:e.get 7=.cells [ah (n:Int),v] 0:=by rw[f.1 7 aa];simp only[go_sem,bv,bh]
   have M:e.get d.next=.cells (bk c.1) 0:=by rw[f.1 _ aa];simp only[go_sem];rfl
   have Y:rd 5 E=ah (m:Int):=by rw[b.2.2.2.1];exact hi
   have cs:=f.2;have cp:=bG (aa:7<e.next)
   have X:aH e 5 v (di (p.take m)) g:=aH.oo r ⟨fun y hy _ _=>by rw[f.1 y aa];simp only[go_sem,bG hy],aa⟩;obtain⟨bB,am,ap⟩:=r.aZ;have da:(di (p.take m)).length=(p.take m).length*5:=pS _;have tl:(p.take m).length≤4096:=by rw[dP];omega
   simp only[bk]at M
   have a1:∀(F:Fr) (K:Fr→af→Prop),kg [1,2,4] F D→rd 5 F=ah (m:Int)→(∀w u i k,kg [1,2,4] w D→rd 5 w=ah (m:Int)→aH i 5 u (di (p.take (m+1))) k→(k=0∨7<k)→i.get 7=.cells [ah (n:Int),u] 0→en 7 d i→8≤i.next→K w i)→
    gk (some 118) (jY eO 5 [ex 119 (fa 1 (rd 4)),bF (st 1 (rd 119) (rd 118))] K) F (fA 5 88 [v,.slice e.next 0 1 (.known 1)] (e.push (.cells (iB c) 0))):=by
    intro F K O ba z;simp only[go_sem,a]at O;refine gA (bytes:=88) (new:=iB c) X rfl ag rfl ⟨aa,ag⟩ fun v3 H3 g3 B ar aw c0=>?_
    have a0:=(aw 7 aa (X.ne Bz)).trans Bz;obtain⟨p3,b1,b2⟩:=B.aZ;simp only[go_sem,O,a0,p3,b1,b2];refine z _ v3 _ g3 ?_ ?_ ?_ aa ?_ (en.set ⟨fun y hy=>?_,aa⟩ (aF _) _) (by simp only[go_sem];omega)
    iterate 2 simp only[go_sem,O,a,ba]
    ·rw[RU P,we];have:=B.set a0 (.cells [ah (n:Int),v3] 0);simpa [di]using this
    ·simp only[go_sem]
    ·rw[aw y aa aa,f.1 y aa];simp only[go_sem,bG (aa:y<d.next)]
   have h7:=hh.2;by_cases cd:m=0
   ·have J:((0:Int)<(m:Int))=False:=eq_false aa;simp(disch:=omega)only[go_sem,b,hi,J,Bz,qq,M,bS,pz,o];refine a1 _ _ ?_ ?_ fun w u i k C R S oK T U V=>?_
    iterate 2 simp only[go_sem,a,b,hi]
    simp only[go_sem,a]at C;simp only[go_sem,C,R];exact⟨hh.trans U,V,u,k,T,S,oK⟩
   ·have J:((0:Int)<(m:Int))=True:=eq_true aa;have w1:aB .i64 ((m:Int)-1)=((m-1:Nat):Int):=by rw[aI _ aa];omega
    obtain⟨s,bj,hs⟩:=iR (aa:m-1<p.length);have bc:=C7 hs;have a':cO (jd p) ((m-1)*2+1)=some (bI s.2):=Gj bc rfl;have Q:=I.t s bj;have bi:=Qo I.ord hs (by rw[(aa:m-1+1=m)];exact P);have ab:=GN s.2 c.2 (by rw[Q.len,l.len]) (by rw[Q.len];omega) (by have:=Q.sum;omega) (by have:=l.sum;omega);rw[bi]at ab;simp(disch:=omega)only[go_sem,b,hi,J,w1,qq,bS,pz,o,a'];refine use ab ?_;simp(disch:=omega)only[go_sem,b,hi,Bz,qq,M,bS,pz,o];refine a1 _ _ ?_ ?_ fun w u i k C R S oK T U V=>?_
    iterate 2 simp only[go_sem,a,b,hi]
    simp only[go_sem,a]at C;simp only[go_sem,C,R];exact⟨hh.trans U,V,u,k,T,S,oK⟩
 ·rintro D d a hh ⟨h8,v,g,bh,r,bd⟩;simp only[go_sem]at a;rw[List.take_length]at r;have L:d.get 6=.cells [ah 0,.ak] 0:=by rw[hh.1 6 ag];simp only[go_sem]
  obtain⟨bB,am,ap⟩:=r.aZ;simp only[go_sem,a,L,bh,bB,am,ap];obtain⟨b',B,ar⟩:=(r.set L (.cells [ah (n:Int),v] 0)).dQ (H2:=af.zero d.next) ag (fun y _ _=>af.e7 _ _) (cD.refl _)
  rw[pS]at ar;rw[(aa:b'=p.length)]at B;exact⟨_,.aA (.cons (.agg (.cons (.same _) (.cons B .nil))) (.cons (.same _) .nil)),.aA (.cons (.agg (vo n p)) (.cons (.bool _) .nil)),rfl⟩
theorem Qf(n:Nat)(b:n=1∨n=2)(p:List ax)(a:iX n p):aS 257 [gv n p] (.aA [gD n p,bE]):=by
 have j:=a.len;have c:=apk n b p a;have f:((4096:Int)<(p.length:Int))=False:=eq_false aa;have i:c3 (eD p)=some (.val (ah (p.length:Int))):=rfl;have d:c3 (bJ p)=some (.val (ah (p.length:Int))):=rfl;simp only[gv,bS,gD,gf]at c;refine gh (.cons (.agg (Br n p)) .nil) (cN Tryz.f257 (h:=?_));simp only[go_sem,gv,bS,f,i];refine use c ?_;cases p with
 |nil=>
  simp only[go_sem,d,ua,kS,Int.cast_ofNat_Int];exact fG rfl (.aA (.cons (.agg (vo n [])) (.cons (.bool _) .nil)))
 |cons s p=>
  have e:=a.t s aE;have g:((0:Int)<((s::p).length:Int))=True:=eq_true (by rw[cV];omega);have hi:(0:Int)≤0∧(0:Int)<(((s::p).length:Nat):Int):=by rw[cV];omega
  have h:cO (di (s::p)) 4=some (bI s.2):=rfl;simp only[go_sem,d,ua,g,pq hi,h];refine use (Rf s.2 n b e.len e.sum) ?_;simp only[go_sem,ua];exact fG rfl (.aA (.cons (.agg (vo n _)) (.cons (.bool _) .nil)))
theorem QL(n:Nat)(c:n=1∨n=2)(p:List ax)(d:iX n p):aS 192 [ah (n:Int),ah 1,jR n p] (.aA [pO n p,bE]):=by
 have a:=Qf n c p d;have b:=Qf n c [] (Cg n);simp only[gv,bS,gD,gf]at a b;have e:c3 (bJ [])=some (.val (ah 0)):=rfl;refine gh (.cons (.int _ _) (.cons (.int _ _) (.cons (.agg (qo n p)) .nil))) (cN Tryz.f192 (h:=?_));simp only[go_sem,jR,eR,bS,mL];refine use a ?_;simp only[go_sem,ua];refine use b ?_;simp only[go_sem,ua,e];exact fG rfl (.aA (.cons (.agg (vq n p)) (.cons (.bool _) .nil)))
theorem Qv:aS 189 [ah 1] bE:=by
 refine gh (.cons (.int _ _) .nil) (cN Tryz.f189 (h:=?_));simp only[go_sem];refine qV 1 ?_;simp(disch:=omega)only[go_sem,kE,aI,show(1:Int)<2*2↔True from⟨fun _=>trivial,fun _=>aa⟩];exact fG rfl (.bool _)
theorem ap6(w:Nat):(if((w:Nat):Rat).num<0 then(-1:Int)else if((w:Nat):Rat).num=0 then 0 else 1)=if w=0 then 0 else 1:=by
 rw[Rat.num_natCast,aj aa];by_cases h:w=0
 ·rw[ao h,ao aa]
 ·rw[aj h,aj aa]
theorem apP(w:Nat):aS 91 [bz (w:Rat)] (ah (if w=0 then 0 else 1)):=by
 have h:=zU (w:Rat);rwa[ap6]at h
theorem Rd:aS 91 [bz 0] (ah 0):=zU 0
theorem aqX(q:Rat)(d:bg 100 q):aS 256 [s7 (bf q)] (.aA [bz q,bz 0,bE]):=by
 have a:=zR q d;have b:aS 44 [.str [48]] (.aA [bz 0,bE]):=zR 0 ⟨ag,ag⟩;have c:=Rd;simp only[bz,bk]at a b c;refine gh (.cons (.agg (.cons (.str _) (.cons (.str _) (.cons (.int _ _) .nil)))) .nil) (cN Tryz.f256 (h:=?_));simp only[go_sem,s7];refine use a ?_;simp only[go_sem];refine use b ?_;simp only[go_sem];refine use Qv ?_;simp only[go_sem];refine use c ?_;simp only[go_sem];exact fG rfl (.aA (.cons (fT _) (.cons (fT _) (.cons (.bool _) .nil))))
theorem aqg(w:Nat):aS 191 [bz (w:Rat),bz 0,ah 1] (ah (if w=0 then 0 else 1)):=by
 have a:=apP w;have b:=Rd;obtain⟨r,c⟩:∃r:Int,r=if w=0 then 0 else 1:=⟨_,rfl⟩
 rw[←c]at a⊢;simp only[bz,bk]at a b;refine gh (.cons (fT _) (.cons (fT _) (.cons (.int _ _) .nil))) (cN Tryz.f191 (h:=?_));simp only[go_sem,bz,bk];refine use a ?_;simp only[go_sem];refine use b ?_;by_cases e:r=0
 ·simp only[go_sem,e];exact fG rfl (.int _ _)
 ·simp only[go_sem,e];exact fG rfl (.int _ _)
theorem apc(n:Nat)(c:n=1∨n=2)(s:mu)(h:s.az n):aS 190 [ah (n:Int),ah 1,.agg (iA n s)] (.aA [.agg (kr n s),bE]):=by
 have a:=aqX (s.w:Rat) (G0 h.w);have b:=QL n c s.r h.r;simp only[s7,bz,bk,jR,eR,bS,eL,eE,pO,jc,gf]at a b;refine gh (.cons (.int _ _) (.cons (.int _ _) (.cons (.agg (xk n s)) .nil))) (cN Tryz.f190 (h:=?_));simp only[go_sem,iA,eR,bS,mL];refine use a ?_;simp only[go_sem];refine use b ?_;simp only[go_sem,ua];exact fG rfl (.aA (.cons (.agg (FI n s)) (.cons (.bool _) .nil)))
theorem apL(n:Nat)(s:mu):cK (kr n s)=true:=rfl
set_option maxHeartbeats 2000000 in
theorem apb(b:Nat)(hn:b=1∨b=2)(o:List ax)(Y N:List (List ax))(ft:Y.length≤16)(le:N.length≤16)(c:nH)(hc:c.az b Y.length N.length):aS 126 [fJ ⟨b,o,Y,N⟩,.agg (gS b c)] (.aA [.agg (nB b c),bE]):=by
 have fw:=hc.zi;have fv:=hc.lm;have cb:∀x:List (List ax),c3 (gd b x)=some (.val (ah (x.length:Int))):=fun _=>rfl
 refine gh (.cons (oz _) (.cons (.agg (tR b c)) .nil)) (cN Tryz.f126 (h:=?_));have d1:((64:Int)<(c.ps.length:Int))=False:=eq_false aa;have d2:((c.ms.length:Int)=(N.length:Int))=True:=eq_true aa;simp only[go_sem,fJ,gS];refine use Qv ?_;simp only[go_sem,d1,d2,cb];obtain⟨pc,L⟩:∃pc:List V,pc=[ah (b:Int),ah (b:Int),bJ o,gd b Y,gd b N]:=⟨_,rfl⟩;refine each c.ps.length [2,3,4,6,44,45] 8 (fun m F H=>9≤H.next∧∃v D g,H.get 8=.cells [ah 1,v,.ak] 0∧aH H 2 v D g∧jq H g D (br (uy b) (c.ps.take m))∧D.length=m*2∧(g=0∨8<g)) ?_ ?_ aa ag (kV rfl) (fun _ _ _ _ _ _ h=>h) ⟨aF 9,.ak,[],0,by simp only[go_sem],.nil,.nil,rfl,.inl rfl⟩ ?_ ?_
 iterate 2 simp only[go_sem]
 ·rintro m dC H1 hm e hh hi ⟨h8,v,D,g,bh,S,a2,b2,eb⟩;simp only[go_sem]at e;obtain⟨a,bi,R⟩:=iR hm;have W:=gi (xO b) R;have G:=hc.ps a bi;have f0:=G.li;have f5:=G.ls;have n1:=bG (aa:H1.next<H1.next+1)
  have dv:=bG (aa:8<H1.next)
  simp(disch:=omega)only[go_sem,e,hi,eU,W,kq,n1,dv];refine NA (n:=a.is.length) (cs:=ct a.is) ?_ ag (F5 _) ⟨aa,ag⟩ fun I H2 k1 k2 ⟨bB,a6,Z⟩ eh=>?_
  ·simp only[go_sem]
  simp only[go_sem]at k1 k2;have fr:H2.get 8=.cells [ah 1,v,.ak] 0:=by rw[k1 8 aa];simp only[go_sem,dv,bh,bG (aa:8<H1.next+1)]
  have dl:H2.get H1.next=.cells [bI a.is,bu (iA b) a.gr] 0:=by rw[k1 _ aa];simp only[go_sem,n1]
  have nb:=bG (aa:H1.next<H2.next)
  have d3:((256:Int)<(a.gr.length:Int))=False:=eq_false aa;have bs:en H1.next H1 H2:=⟨fun y d=>by rw[k1 y aa];simp only[go_sem,bG (aa:y<H1.next+1),bG d],aa⟩
  have df:H2.get 5=.cells pc 0:=by rw[bs.1 5 aa,hh.1 5 aa];simp only[go_sem,L]
  have e1:c3 (bI a.is)=some (.val (ah (a.is.length:Int))):=rfl;simp only[go_sem,bB,a6,Z,nb,dl,e1];obtain⟨f,M⟩:∃f,f=(H2.push (.cells [.ak,.ak] 0)).set H2.next (.cells [I,.ak] 0):=⟨_,rfl⟩
  have f6:f.next=H2.next+1:=by rw[M];rfl
  have d6:f.get H2.next=.cells [I,.ak] 0:=by rw[M];simp only[go_sem]
  have bv:en H2.next H2 f:=by rw[M];exact⟨fun y d=>by simp only[go_sem,bG d],by simp only[go_sem];omega⟩
  rw[←M];clear M;have dp:=(bv.1 H1.next aa).trans dl
  have eQ:=(bv.1 5 aa).trans df;refine each a.is.length [2,3,4,6,8,9,44,45,46,56,57] f.next (fun _ _ H=>H.next=f.next) ?_ ?_ aa ag (aF _) (fun _ _ _ _ _ _ h=>h) rfl ?_ ?_
  iterate 2 simp only[go_sem]
  ·intro j dT H4 U u J c1 be;simp only[go_sem,e]at u;have dk:=(J.1 5 aa).trans eQ;have a4:=(J.1 H1.next aa).trans dp
   obtain⟨x,hx⟩:∃x,a.is.getD j 0=x:=⟨_,rfl⟩;have ex:a.is[j]? =some x:=by rw[←hx,cy,cx U];rfl
   have fp:=G.ik x (eN ex);have f1:((x:Int)<0)=False:=eq_false aa;have f2:((x:Int)<(Y.length:Int))=True:=eq_true aa;by_cases h0:j=0
   ·have f3:((0:Int)<(j:Int))=False:=eq_false aa;simp(disch:=omega)only[go_sem,e,u,hi,c1,dk,a4,L,nV,n3,hx,f1,f2,f3,cb];exact⟨kb,be⟩
   ·have f3:((0:Int)<(j:Int))=True:=eq_true aa;have w1:aB .i64 ((j:Int)-1)=((j-1:Nat):Int):=by rw[aI _ aa];omega
    obtain⟨z,hz⟩:∃z,a.is.getD (j-1) 0=z:=⟨_,rfl⟩;have f4:((z:Int)<(x:Int))=True:=eq_true (by
     have G:=List.pairwise_iff_getElem.1 G.is (j-1) j aa U aa;rw[←hz,←hx,cy,cy,cx (by omega:j-1<a.is.length),cx U];exact oc.2 G)
    simp(disch:=omega)only[go_sem,e,u,hi,c1,dk,a4,L,nV,n3,hx,hz,f1,f2,f3,f4,w1,cb];exact⟨kb,be⟩
  ·intro dT H4 u J be;simp only[go_sem,e]at u;have a4:=(J.1 H1.next aa).trans dp
   have d7:=(J.1 H2.next aa).trans d6
   have aw:∀y,y<H2.next→H4.get y=H2.get y:=fun y d=>(J.1 y aa).trans (bv.1 y d)
   simp only[go_sem,u,a4,d3];have ff:∀s:Int,s=0∨s=1→(s<0)=False:=fun s h=>eq_false aa
   refine each a.gr.length [2,3,4,6,8,9,44,45,46,94,95] H2.next (fun j F H=>H2.next<H.next∧∃l t,H.get H2.next=.cells [I,l] 0∧aH H 12 l (br (kr b) (a.gr.take j)) t∧(t=0∨H2.next<t)) ?_ ?_ aa ag aa (fun _ _ _ _ _ _ h=>h) ⟨aa,.ak,0,d7,.nil,.inl rfl⟩ ?_ ?_
   iterate 2 simp only[go_sem]
   ·rintro j d0 i U A K c2 ⟨fa,l,t,P,p,bo⟩;simp only[go_sem,e,u]at A;obtain⟨s,eq,hs⟩:=iR U;have em:=gi (pP b) hs;have es:=G.gr s eq;have X:=apc b hn s es;have b1:=aqg s.w;have da:((if s.w=0 then(0:Int)else 1)<0)=False:=ff _ (by by_cases h:s.w=0<;>simp[h]);obtain⟨r,W⟩:∃r:Int,r=if s.w=0 then 0 else 1:=⟨_,rfl⟩
    rw[←W]at b1 da;have m1:=bG (aa:H2.next<i.next)
    have m2:=bG (aa:H2.next<i.next+1)
    have dt:=bG (aa:i.next<i.next+1)
    have cd:=bG (aa:5<i.next)
    have ce:=bG (aa:6<i.next)
    have bb:i.get 5=.cells pc 0:=(K.1 5 aa).trans ((aw 5 aa).trans df);have bc:i.get 6=.cells (gS b c) 0:=(K.1 6 aa).trans ((aw 6 aa).trans (by rw[bs.1 6 aa,hh.1 6 aa];simp only[go_sem,gS]));simp only[iA,eR,bS,eL,eE,kr,bk,jc,gf]at X;simp only[bz,bk]at b1;simp(disch:=omega)only[go_sem,A,c2,eU,em,iA,eR,bS,mL,cd,ce,bb,bc,L,gS];refine use X ?_;simp only[go_sem,ua,A,dt];refine use b1 ?_;simp only[go_sem,da,A,m1,m2,dt,P];have bj:=aH.ps (aH.ps p [.str [],.str [],ah 0,ah 0,.ak,ah 0,.ak] (.cells (iA b s) 0)) [aC,.ak,aC,.ak,aC,.ak,aC,.ak,ah 0,.ak,ah 0,.ak] (.cells (kr b s) 0);have ev:=fO (kr b) (xV b) (a.gr.take j);have et:(a.gr.take j).length≤2:=by rw[dP];omega
    refine gA (bytes:=192) (new:=kr b s) bj (xV b s) ag (apL b s) ⟨aa,ag⟩ fun v3 ba O C a9 q al=>?_
    simp only[go_sem]at a9 q al;have rb:ba.get H2.next=.cells [I,l] 0:=by rw[q _ aa (p.ne P)];simp only[m1,m2,if_false,P]
    obtain⟨p3,ad,ae⟩:=C.aZ;simp only[go_sem,e,u,A,c2,rb,p3,ad,ae];refine⟨en.set ⟨fun y d=>?_,aa⟩ (aF _) _,aa,v3,O,rfl,?_,aa⟩
    ·rw[q y aa aa,aj aa,aj aa,aj aa,aj aa];exact K.1 y d
    ·rw[rO hs];exact C.set rb _
   ·rintro d0 i A K ⟨fa,l,t,P,p,bo⟩;simp only[go_sem,e,u]at A;rw[rT]at p;obtain⟨l3,l4,a7⟩:=p.aZ;have hK:∀y,y<H1.next→i.get y=H1.get y:=fun y d=>by
     rw[K.1 y aa,aw y aa];exact bs.1 y d
    have a1:aH i 2 v D g:=aH.oo S (eW.low hK aa);have fn:=aH.lt S;have B:i.get 8=.cells [ah 1,v,.ak] 0:=(hK 8 aa).trans bh;have a8:=bG (aa:8<i.next)
    have ea:jq i g (D++[I,l]) (br (uy b) (c.ps.take (m+1))):=by
     rw[rO R];refine(a2.step (eW.low hK aa) (.inr (.inl rfl))).app (jq.app (xs:=[I]) (ys:=[bI a.is]) (eh i 2 v D g (eW.low (fun y d=>?_) aa) a1 (by simp only[go_sem];omega)) (aH.xz p a1 aa ag (fO (kr b) (xV b) a.gr)));rw[K.1 y d,aw y d]
    simp only[go_sem,A,B,P,bB,a6,Z,l3,l4,a7,a8];refine gA (bytes:=48) (new:=[I,l]) a1 rfl ag (by simp only[go_sem,Z,a7]) ⟨aa,ag⟩ fun v4 ba O C a9 q al=>?_
    have cf:ba.get 8=.cells [ah 1,v,.ak] 0:=(q 8 aa (a1.ne B)).trans B;obtain⟨p3,ad,ae⟩:=C.aZ;simp only[go_sem,A,cf,p3,ad,ae,e,hi];refine⟨en.set ⟨fun y d=>?_,aa⟩ (aF _) _,aa,v4,_,O,rfl,C.set cf _,ea.step ((eW.app q al).set cf _) aa,?_,aa⟩
    ·rw[q y aa aa,hK y aa];exact hh.1 y d
    ·rw[aV,b2];show m*2+2=_;omega
 ·rintro dC H1 e hh ⟨h8,v,D,g,bh,S,a2,b2,eb⟩;simp only[go_sem]at e;rw[rT]at a2;obtain⟨bB,a6,Z⟩:=S.aZ;have d5:H1.get 5=.cells pc 0:=by rw[hh.1 5 aa];simp only[go_sem,L]
  have cp:H1.get 6=.cells (gS b c) 0:=by rw[hh.1 6 aa];simp only[go_sem,gS]
  have d8:H1.get 7=.cells [ah 0,.ak,.ak] 0:=by rw[hh.1 7 aa];simp only[go_sem]
  simp only[go_sem,e,cp,gS];refine each c.ms.length [2,3,4,6,138,139] 8 (fun m F H=>eW 0 H1 H∧∃l t,H.get 8=.cells [ah 1,v,l] 0∧aH H 4 l (br (jc b) (c.ms.take m)) t∧(t=0∨H1.next≤t)) ?_ ?_ aa ag aa (fun _ _ _ _ _ _ h=>h) ⟨.refl,.ak,0,bh,.nil,.inl rfl⟩ ?_ ?_
  iterate 2 simp only[go_sem]
  ·rintro m dE f hm E T c0 ⟨Q,l,t,B,p,bo⟩;simp only[go_sem,e]at E;obtain⟨a,bi,R⟩:=iR hm;have W:=gi (pR b) R;have fi:=Q.n;have X:=QL b hn a (hc.ms a bi);have cd:=bG (aa:5<f.next)
   have ce:=bG (aa:6<f.next)
   have a8:=bG (aa:8<f.next)
   have du:=bG (aa:8<f.next+1)
   have fx:=bG (aa:f.next<f.next+1)
   have bb:=(T.1 5 aa).trans d5;have bc:=(T.1 6 aa).trans cp;simp only[jR,eR,bS,eL,eE,pO,jc,gf]at X;simp(disch:=omega)only[go_sem,E,c0,eU,W,eR,bS,mL,cd,ce,bb,bc,L,gS];refine use X ?_;simp only[go_sem,ua,E,a8,du,B];have bj:=aH.ps (aH.ps p [ah 0,.ak,ah 0,.ak] (.cells (eR b a) 0)) [ah 0,.ak,ah 0,.ak] (.cells (jc b a) 0);have ev:=fO (jc b) (uD b) (c.ms.take m);have et:(c.ms.take m).length≤16:=by rw[dP];omega
   refine gA (bytes:=64) (new:=jc b a) bj (uD b a) ag rfl ⟨aa,ag⟩ fun v3 H4 O C a9 q al=>?_
   simp only[go_sem]at a9 q al;have rb:H4.get 8=.cells [ah 1,v,l] 0:=by rw[q _ aa (p.ne B)];simp only[a8,du,if_false,B]
   obtain⟨p3,ad,ae⟩:=C.aZ;simp only[go_sem,e,E,c0,rb,p3,ad,ae];refine⟨en.set ⟨fun y d=>?_,aa⟩ (aF _) _,⟨fun y d n1 n2=>?_,by simp only[go_sem];omega⟩,v3,O,rfl,?_,aa⟩
   ·rw[q y aa aa,aj aa,aj aa,aj aa,aj aa];exact T.1 y d
   ·have el:8≠y:=by rintro rfl;exact n1 _ bh
    rw[af.aK,aj el,q y aa aa,aj aa,aj aa,aj aa,aj aa];exact Q.a y d n1 n2
   ·rw[rO R];exact C.set rb _
  ·rintro dE f E T ⟨Q,l,t,B,p,bo⟩;simp only[go_sem,e]at E;rw[rT]at p;have a':=(T.1 7 aa).trans d8;obtain⟨l3,l4,a7⟩:=p.aZ;simp only[go_sem,E,a',B,bB,a6,Z,l3,l4,a7];have ed:=(aH.oo S Q).set a' (.cells [ah 1,v,l] 0);refine⟨_,.aA (.cons (.agg (.cons (.same _) (.cons (mH (Hs b) ag ed (a2 _ _ (fun y cs k _ _=>af.e7 _ _) (Q.trans (eW.refl.set a' _) (.inl rfl)).to) (fun y h0 h1=>af.e7 _ _) ?_) (.cons (mH (uD b) ag (p.set a' _) (cD.refl _) (fun y h0 h1=>af.e7 _ _) (fO (jc b) (uD b) _)) .nil)))) (.cons (.same _) .nil)),.aA (.cons (.agg (Bo b c)) (.cons (.bool _) .nil)),rfl⟩;exact b2
theorem anN(p:fc)(s:List b9)(v:Nat)(g:v<p.n)(a:Rat)(f:bg 100 a)(l r:Nat):aS 73 [fJ p,c8 s,.agg (cA p.n (.split v a l r))] bE:=by
 have b:=zR a f;have c:((v:Int)<0)=False:=eq_false aa;have d:((v:Int)<(p.n:Int))=True:=eq_true aa;simp only[bz,bk]at b;refine gh (.cons (oz p) (.cons (lE s) (.cons (.agg (nj _ _)) .nil))) (cN Tryz.f73 (h:=?_));by_cases h:(v:Int)=0
 ·simp only[go_sem,fJ,cA,h,JR,pV];refine use b ?_;have e:((0:Int)<(p.n:Int))=True:=eq_true aa;simp only[go_sem,e];refine use Bj ?_;simp only[go_sem];exact fG rfl (.bool _)
 ·simp only[go_sem,fJ,cA,h];refine use b ?_;simp only[go_sem,c,d];refine use Bj ?_;simp only[go_sem];exact fG rfl (.bool _)
theorem anM(p:fc)(a:p.az)(s:List b9)(l:s.length=p.n)(u:∀x∈s,iE 90 x)(f:p7)(j:q2 p (s.map eC) f):aS 73 [fJ p,c8 s,.agg (cA p.n (.leaf f))] bE:=by
 have t:=a.n;have A:=a.li;have z:=a.le;have w:∀x:List (List ax),c3 (gd p.n x)=some (.val (ah (x.length:Int))):=fun _=>rfl
 refine gh (.cons (oz p) (.cons (lE s) (.cons (.agg (nj _ _)) .nil))) (cN Tryz.f73 (h:=?_));rcases f with _|k|⟨b,c⟩
 ·simp only[go_sem,fJ,cA];refine use Bj ?_;simp only[go_sem];exact fG rfl (.bool _)
 ·obtain⟨y,e,i⟩:=j;rw[I0]at i;have g:=JP s aa;unfold wU at g;rw[ao i]at g;have o:(k< -1)=False:=eq_false aa;have q:aB .i64 ((p.is.length:Int)+(p.es.length:Int))=((p.is.length+p.es.length:Nat):Int):=by rw[aI _ aa];omega
  have r:(k<((p.is.length+p.es.length:Nat):Int))=True:=eq_true e;simp only[go_sem,fJ,cA];refine use g ?_;simp only[go_sem];refine use Bj ?_;simp only[go_sem,o,q,r,w];exact fG rfl (.bool _)
 ·have d:=QU p a s l u;rw[G5]at d;have v:=xT p.n 0 (s.map eC);rw[iu,l]at v;have h:=apb p.n t p.obj (p.is++ij p.n 0 (s.map eC)) p.es (by rw[aV];omega) aa c j;obtain⟨m,e⟩:∃m,m=p.is++ij p.n 0 (s.map eC):=⟨_,rfl⟩;rw[←e]at d h;simp only[fJ,gS,nB]at d h;cases b<;>
  ·simp only[go_sem,fJ,cA,nY,cond_true,cond_false];refine use d ?_;simp only[go_sem];refine use h ?_;simp only[go_sem,nY];exact fG rfl (.bool _)
def mP(x:b9):b9:=⟨if x.hl then x.lo else 0,if x.hh then x.hi else 0,x.hl,x.hh⟩
def aN.nb(t:aN)(n:Nat):List b9:=(t.bs n).map mP
theorem apW:rv []=0:=by unfold rv;rw[PY];rfl
theorem aq8(x:b9):uE (eC x)=mP x:=by
 obtain⟨lo,hi,a,b⟩:=x;cases a<;>cases b<;>simp[uE,eC,mP,pV,nC,apW]
theorem asn(x:b9):eC (mP x)=eC x:=by
 obtain⟨lo,hi,a,b⟩:=x;cases a<;>cases b<;>rfl
theorem P3(e:0<h){x:b9}(d:iE h x):iE h (mP x):=by
 obtain⟨lo,hi,a,b⟩:=x;have c:bg h 0:=Cj e;cases a<;>cases b
 ·exact⟨c,c⟩
 ·exact⟨c,d.2⟩
 ·exact⟨d.1,c⟩
 ·exact d
theorem Gt(t:aN)(n i:Nat):(t.nb n).getD i jb=mP ((t.bs n).getD i jb):=by
 unfold aN.nb;rw[cy,cy,iW];cases(t.bs n)[i]? <;>rfl
theorem anY{a:Rat}{x:b9}(h:oX a x):oX a (mP x):=by
 obtain⟨lo,hi,c,d⟩:=x;refine⟨fun e=>?_,fun e=>?_⟩
 ·cases e;exact h.1 rfl
 ·cases e;exact h.2 rfl
theorem P2(l:List b9)(i:Nat)(a:Rat):(qD l i a).map mP=(nU (l.map mP) i a).1∧(qK l i a).map mP=(nU (l.map mP) i a).2:=by
 have e:(l.map mP).getD i jb=mP (l.getD i jb):=by
  rw[cy,cy,iW];cases l[i]? <;>rfl
 unfold qD qK nU;rw[e,List.map_set,List.map_set];exact⟨rfl,rfl⟩
def kI(f:Nat→V)(a:Nat):Nat→Nat→List V
 |0,_=>[]
 |k+1,j=>(if j≤a then f j else .ak)::kI f a k (j+1)
theorem QZ(f:Nat→V):∀n j,rep [V.ak] n=kI f 0 n (j+1)
 |0,_=>rfl
 |n+1,j=>by rw[Cm,QZ f n (j+1),kI,aj aa];rfl
theorem AI(f:Nat→V)(a:Nat):∀k j,(kI f a k j).length=k
 |0,_=>rfl
 |k+1,j=>by rw[kI,cV,AI]
theorem yO(f:Nat→V)(a:Nat):∀k j i,(kI f a k j)[i]? =if i<k then some (if j+i≤a then f (j+i)else .ak)else none
 |0,_,_=>by rw[kI,aj aa];rfl
 |k+1,j,0=>by rw[ao (m7 k)];rfl
 |k+1,j,i+1=>by
  rw[kI,List.getElem?_cons_succ,yO f a k (j+1) i,(aa:j+1+i=j+(i+1))];simp only[Nat.add_lt_add_iff_right]
theorem TQ{f:Nat→V}{a:V}(j:f (2*h+1)=a)(k:f (2*h+2)=r)(b:2*h+2<u):((kI f (2*h) u 0).set (2*h+1) a).set (2*h+2) r=kI f (2*(h+1)) u 0:=by
 refine uQ fun i=>?_
 rw[r7,r7,gE,AI,yO,yO];simp only[eJ];by_cases c:i=2*h+2
 ·subst c;rw[ao rfl,ao b,ao b,ao aa,k]
 ·by_cases d:i=2*h+1
  ·subst d;rw[aj aa,ao rfl,ao aa,ao aa,ao aa,j]
  ·rw[aj (fun e=>c e.symm),aj (fun e=>d e.symm)];have e:(if i≤2*h then f i else V.ak)=if i≤2*(h+1)then f i else V.ak:=by
    by_cases g:i≤2*h
    ·rw[ao g,ao aa]
    ·rw[aj g,aj aa]
   rw[e]
def rm(l:List b9):List V:=[c8 l]
def qG(t:aN)(j:Nat):V:=c8 (t.nb j)
theorem JT(t:aN)(a:Nat):∀k j,j+k≤a+1→kI (qG t) a k j=br rm ((tB j k).map t.nb)
 |0,_,_=>rfl
 |k+1,j,h=>by rw[kI,ao aa,JT t a k (j+1) aa];rfl
def aN.oC(t:aN):List (List b9):=(tB 0 (2*t.s+1)).map t.nb
theorem api(p:fc)(h:p.az)(t:aN)(j:t.az p)(b:Rat)(hb:bg 81 b):aS 29 [fJ p,.agg (fP t p.n b)] (.aA [bu rm t.oC,bE]):=by
 have hn:=h.n;have Z:=j.s;have l0:(t.bs 0).length=p.n:=j.len 0 aa;have N:=ao' p.n (t.cv 0) (by rw[aN.cv,iu];omega) (fun bv Z=>by
  obtain⟨x,o,rfl⟩:=kT.1 Z;have X:=j.q 0 aa x o;show(if x.hl=true then _ else _:List UInt8).length≤500∧(if x.hh=true then _ else _:List UInt8).length≤500;exact⟨by split;exact rV X.1 ag;simp,by split;exact rV X.2 ag;simp⟩)
 rw[ao1 (show tc p.n (t.cv 0)=true from Sf _ _ l0 fun x o=>(j.rt x o).2),show(t.cv 0).map uE=t.nb 0 by unfold aN.cv aN.nb;rw[List.map_map];exact List.map_congr_left fun x _=>aq8 x]at N;have Y:=zR b (hb.mono ag);have c1:((t.de.length:Int)<1)=False:=eq_false (by rw[gC];omega);have c2:((256:Int)<(t.de.length:Int))=False:=eq_false (by rw[gC];omega);have m1:∀(k:Nat) (O:List V),k=24∨k=1→l7 k O [ah (t.de.length:Int),ah (t.de.length:Int)]=some (.new (rep O (2*t.s+1)) (.slice (2*t.s+1) (2*t.s+1))):=fun k O g=>by
  rw[iI ⟨aa,by rw[gC];rcases g with rfl|rfl<;>omega,by rw[gC];omega⟩,bH,gC]
 have bd:(0:Int)≤0∧(0:Int)<((2*t.s+1:Nat):Int):=aa;simp only[hY,bz,bk]at N Y;refine gh (.cons (oz p) (.cons (.agg (.cons (ie o9 _) (.cons (.str _) (.cons (ie (nj _) _) .nil)))) .nil)) (cN Tryz.f29 (h:=?_));simp only[go_sem,fJ,fP];refine use N ?_;simp only[go_sem];refine use Y ?_;simp only[go_sem,c1,c2,m1 24 _ (.inl rfl),m1 1 _ (.inr rfl),bW bd];rw[QZ (qG t) _ 0,He _ 0,show c8 (t.nb 0)::kI (qG t) 0 (2*t.s) (0+1)=kI (qG t) 0 (2*t.s+1) 0 from(by rw[kI,ao (aF 0)];rfl),show V.bool true::jC 0 (2*t.s) (0+1)=jC 0 (2*t.s+1) 0 from rfl];obtain⟨pc,M⟩:∃pc:List V,pc=[ah (p.n:Int),ah (p.n:Int),bJ p.obj,gd p.n p.is,gd p.n p.es]:=⟨_,rfl⟩;refine each (2*t.s+1) [2,3,10,11,63,64] 7 (fun m _ H=>H.get 8=.cells (kI (qG t) (2*min m t.s) (2*t.s+1) 0) 0∧H.get 9=.cells (jC (2*min m t.s) (2*t.s+1) 0) 0∧10≤H.next) ?_ ?_ aa ag ?_ (fun _ _ _ _ _ _ h=>h) ?_ ?_ ?_
 iterate 2 simp only[go_sem,gC]
 ·simp only[go_sem];omega
 ·refine⟨?_,?_,?_⟩
  iterate 2 simp only[go_sem,Nat.zero_min,fy]
  ·simp only[go_sem];omega
 ·intro m ac z G g hh hi ⟨d,u,aw⟩;simp only[go_sem]at g;have Q:z.get 5=.cells pc 0:=by rw[hh.1 5 ag];simp only[go_sem,M]
  have ar:z.get 6=.cells (fP t p.n b) 0:=by rw[hh.1 6 ag];simp only[go_sem,fP]
  have a4:t.de[m]? =some (t.nd m):=by rw[aN.de,iW,tw G];rfl
  have I:=gi (n5 p.n) a4;have bj:m<t.de.length:=by rw[gC];exact G
  have a2:(t.bs m).length=p.n:=j.len m aa;have a9:(t.nb m).length=p.n:=by unfold aN.nb;rw[iu];exact a2
  have J:∀x∈t.nb m,iE 81 x:=fun x o=>by
   unfold aN.nb at o;obtain⟨y,hy,rfl⟩:=kT.1 o;exact P3 ag (j.q m aa y hy)
  have B:=bG (aa:5<z.next)
  have C:=bG (aa:6<z.next)
  have D:=bG (aa:8<z.next)
  have E:=bG (aa:9<z.next)
  obtain⟨d1,d2,d3⟩:=B9 p.n (t.nd m);by_cases w:m<t.s
  ·rw[m4 (hO w)]at d u;rw[show t.nd m=.split (t.v m) (t.a m) (2*m+1) (2*m+2)from ao w]at I;have a5:=j.v m w;have L:=j.DH m w;have A:=anN p (t.nb m) (t.v m) a5 (t.a m) (L.mono ag) (2*m+1) (2*m+2);have W:=anU (t.a m) (rV L ag);have R:=G_ (t.nb m) ⟨aa,aa⟩ (t.v m) aa (t.a m) (L.mono ag) (fun x o=>⟨(J x o).1.mono ag,(J x o).2.mono ag⟩) (by rw[Gt];exact anY (j.cv m w));have e1:qG t (2*m+1)=c8 (nU (t.nb m) (t.v m) (t.a m)).1:=by show c8 ((t.bs (2*m+1)).map mP)=_;rw[j.l m w,(P2 _ _ _).1];rfl
   have e2:qG t (2*m+2)=c8 (nU (t.nb m) (t.v m) (t.a m)).2:=by show c8 ((t.bs (2*m+2)).map mP)=_;rw[j.r m w,(P2 _ _ _).2];rfl
   have K:∀i,i≤2*t.s→cO (jC (2*m) (2*t.s+1) 0) i=some (.bool (decide (i≤2*m))):=fun i h=>by rw[gO,vS,ao aa,eJ]
   have F:cO (kI (qG t) (2*m) (2*t.s+1) 0) m=some (c8 (t.nb m)):=by rw[gO,yO,ao G,ao aa,eJ];rfl
   have al:((m:Int)<((2*m+1:Nat):Int))=True∧((m:Int)<((2*m+2:Nat):Int))=True∧(((2*m+1:Nat):Int)<(t.de.length:Int))=True∧(((2*m+2:Nat):Int)<(t.de.length:Int))=True∧(((2*m+1:Nat):Int)=((2*m+2:Nat):Int))=False:=by
    rw[gC];exact⟨eq_true aa,eq_true aa,eq_true aa,eq_true aa,eq_false aa⟩
   have P:decide (m≤2*m)=true∧decide (2*m+1≤2*m)=false∧decide (2*m+2≤2*m)=false:=⟨bm aa,a_ aa,a_ aa⟩;have w1:cz [V.bool true] (jC (2*m) (2*t.s+1) 0) (2*m+1)=some _:=fo (by rw[xR];omega);have w2:cz [V.bool true] ((jC (2*m) (2*t.s+1) 0).set (2*m+1) bE) (2*m+2)=some _:=fo (by rw[gE,xR];omega);have w3:cz [c8 (nU (t.nb m) (t.v m) (t.a m)).1] (kI (qG t) (2*m) (2*t.s+1) 0) (2*m+1)=some _:=fo (by rw[AI];omega);have bc:cz [c8 (nU (t.nb m) (t.v m) (t.a m)).2] ((kI (qG t) (2*m) (2*t.s+1) 0).set (2*m+1) (c8 (nU (t.nb m) (t.v m) (t.a m)).1)) (2*m+2)=some _:=fo (by rw[gE,AI];omega);simp only[fJ,cA]at A;simp only[bz,bk]at W R;simp(disch:=omega)only[go_sem,g,hi,eU,I,cA,d,u,Q,M,bW,K,F,B,C,D,E,P];refine use A ?_;simp(disch:=omega)only[go_sem,g,d,u,bW,F,B,C,D,E];refine use W ?_;simp(disch:=omega)only[go_sem,g,d,u,bW,F,B,C,D,E];refine use R ?_;simp(disch:=omega)only[go_sem,g,hi,d,u,ar,fP,bW,K,B,C,D,E,al,P,w1,w2,w3,bc,m4,show m+1≤t.s from w];rw[TQ e1 e2 aa,QK m _ aa];exact⟨kb,rfl,rfl,aa⟩
  ·have S:t.s≤m:=aa;rw[Nat.min_eq_right S]at d u;rw[show t.nd m=.leaf (t.gp m)from aj w]at I;have U:=j.gp m S aa;rw[show t.cv m=(t.nb m).map eC by unfold aN.nb aN.cv;rw[List.map_map];exact List.map_congr_left fun x _=>(asn x).symm]at U;have A:=anM p h (t.nb m) a9 (fun x o=>⟨(J x o).1.mono ag,(J x o).2.mono ag⟩) (t.gp m) U;have K:cO (jC (2*t.s) (2*t.s+1) 0) m=some bE:=by rw[gO,vS,ao G,bm aa]
   have F:cO (kI (qG t) (2*t.s) (2*t.s+1) 0) m=some (c8 (t.nb m)):=by rw[gO,yO,ao G,ao aa,eJ];rfl
   have a3:min (m+1) t.s=t.s:=Nat.min_eq_right aa;obtain⟨f,hf⟩:∃f,f=t.gp m:=⟨_,rfl⟩;rw[←hf]at I A;rcases f with _|k|⟨c,e⟩
   all_goals try cases c
   all_goals
    simp only[fJ,cA,cond_true,cond_false]at A;simp(disch:=omega)only[go_sem,g,hi,eU,I,cA,d,u,Q,M,bW,K,F,B,C,D,E,cond_true,cond_false,nY];refine use A ?_;simp(disch:=omega)only[go_sem,g,d,u,B,C,D,E,hi,a3];refine⟨kb,?_⟩;omega
 ·intro ac z g hh ⟨d,u,aw⟩;simp only[go_sem]at g;rw[Nat.min_eq_right aa,JT t _ _ _ aa]at d;change z.get 8=.cells (br rm t.oC) 0 at d;have T:t.oC.length=2*t.s+1:=by unfold aN.oC;rw[iu,List.length_range']
  simp only[go_sem,g];refine⟨_,.aA (.cons (.row (m:=2*t.s+1) ?_ aa (af.e7 _ _) (cD.refl (br rm t.oC))) (.cons (.same _) .nil)),.aA (.cons (.row _ (Bp rm (fun a7=>.cons (lE a7) .nil) t.oC)) (.cons (.bool _) .nil)),?_⟩
  ·rw[fI d,dA];exact iU (by rw[fO rm (k:=1) fun _=>rfl,T,ef])
  ·unfold bu;rw[T]
theorem anp(t:aN){n:Nat}(h:n≤2*t.s):cO (br rm t.oC) n=some (c8 (t.nb n)):=by
 have e:t.oC[n]? =some (t.nb n):=by unfold aN.oC;rw[iW,List.getElem?_range' aa];simp
 have:=gi (f:=rm) (k:=1) (fun _=>rfl) e;rw[ef]at this;exact vF this
theorem anq(t:aN):t.oC.length=2*t.s+1:=by unfold aN.oC;rw[iu,List.length_range']
end
end Go.Proofs.YtddhncjmaahodaaGreatDoor
