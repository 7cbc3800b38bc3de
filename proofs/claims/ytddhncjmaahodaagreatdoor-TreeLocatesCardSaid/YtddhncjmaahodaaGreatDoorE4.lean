/- Towards the law TreeLocates: lemmas on the evaluator of the model's code, plain laws of numbers, walks of the program's functions, the card. No conditions. -/
import Derived.Test.YtddhncjmaahodaaGreatDoorE3
import Derived.Below
import Derived.ProofKit
import Derived.Test.YtddhncjmaahodaaGreatDoorRows
import Derived.Lib.LaidTab
import Derived.Carry
import Derived.ChangeSlices
import Derived.Deep.SlicePairs
import Derived.Handed
import Derived.RowKit
set_option linter.all false
noncomputable section
open Array renaming ext'→tw
open Bool renaming and_eq_true→cu,eq_false_iff→mY,false_eq_true→ie,not_false→iY,not_true→gG
open Go.Proofs.Tryz renaming f45→om,prog→eP
open Int renaming natAbs_neg→mZ,ofNat_lt→m0,toNat_natCast→bJ
open List renaming all_eq_true→sg,append_assoc→eJ,append_nil→fG,cons_append→eS,drop_eq_getElem_cons→lI,drop_left→uS,drop_of_length_le→jB,eq_nil_of_length_eq_zero→oT,ext_getElem?→si,getD_eq_getElem?_getD→bX,getElem?_append_left→lJ,getElem?_append_right→q4,getElem?_drop→q5,getElem?_eq_getElem→cn,getElem?_eq_none→kO,getElem?_eq_some_iff→fN,getElem?_map→iy,getElem?_range→wG,getElem?_set→oU,getElem_mem→wI,length_append→aS,length_cons→cL,length_drop→gZ,length_map→g5,length_nil→kP,length_set→gT,length_singleton→gH,length_take→dD,length→ku,mem_append→gI,mem_cons→g7,mem_map→k_,mem_of_getElem?→eT,mem_singleton→dj,merge→sj,nil_append→eI,not_mem_nil→p6,pairwise_append→wK,pairwise_cons→tD,range'→tE,range→oW,replicate→aX,take_append_of_le_length→yM,take_left'→sk,take_left→p_,take_of_length_le→b_,take_succ_eq_append_getElem→kQ,take_zero→q6
open Nat renaming add_assoc→jl,add_comm→i_,add_mul→cF,add_sub_cancel→qb,add_zero→cE,beq_refl→sn,beq→bn,ble→bM,le_of_ble_eq_true→mh,le_of_lt→g8,le_refl→aE,le_succ→sr,le_trans→cy,lt_of_le_of_lt→eY,lt_of_lt_of_le→eG,lt_or_ge→mj,lt_succ_self→mm,lt_trans→qe,min_eq_left→m5,mul_div_cancel→uW,mul_le_mul→j_,mul_one→dF,mul_zero→fc,mul→dQ,not_lt_zero→ke,one_mul→ga,reduceEqDiff→kR,succ_mul→oe,succ_ne_zero→uY,succ_pos→lf,zero_add→dK,zero_le→bQ,zero_mul→jb
open Option renaming none→aM
open Rat renaming divInt_ofNat→u5,divInt→nL
namespace Go.Proofs.YtddhncjmaahodaaGreatDoor
open Go.au Go.aF
def ig(n:Nat)(o:List ax)(b a:List (List ax)):List V:=[eV n,ah (n:Int),eN o,cA n b,cA n a]
def lN(n:Nat)(o:List ax)(b a:List (List ax)):V:=.agg (ig n o b a)
theorem vm(n:Nat)(b:n=1∨n=2)(o:List ax)(c a:List (List ax)):bz (lN n o c a):=.agg (.cons (FO _ b) (.cons (.int _ _) (.cons (sI _) (.cons (xz _ _) (.cons (xz _ _) .nil)))))
def tM(n:Nat)(q:List ax):Prop:=(∀t∈q,t.2.length=n)∧q.length≤4096
@[go_sem]theorem auE(x:V):ru [.func 157 [] [],x]=some (.fn 157,[x]):=rfl
theorem aq6(n:Nat)(hn:n=1∨n=2)(o:List ax)(a es:List (List ax))(hi:∀q∈a,tM n q)(li:a.length≤1000)(F:Fr)(H:af)(R:X→Fr→af→Prop)
 (N:rd 1 F=.func 157 [] []) (S:rd 6 F=.ptr 7 0) (O:rd 35 F=cA n a) (P:rd 36 F=ah (a.length:Int)) (Q:rd 37 F=ah 0) (br:H.get 7=.cells [eV n,ah (n:Int),eN o,.an,.an] 0) (ae:8≤H.next)
 (U:∀C j v g,(∀t,t<10→rd t C=rd t F)→(∀y c,y<7→H.get y=.cells c 0→j.get y=.cells c 0)→j.get 7=.cells [eV n,ah (n:Int),eN o,v,.an] 0→aI j 2 v (fT n a) g→8≤j.next→R (.exit 0) C j):bx (.loop (pc 156 3)) R F H:=by
 refine bH (fun m d b=>∃(i:Nat) (v:V) (g:Nat),m=a.length-i∧i≤a.length∧(∀t,t<10→rd t d=rd t F)∧rd 35 d=cA n a∧rd 36 d=ah (a.length:Int)∧rd 37 d=ah (i:Int)∧(∀y c,y<7→H.get y=.cells c 0→b.get y=.cells c 0)∧b.get 7=.cells [eV n,ah (n:Int),eN o,v,.an] 0∧8≤b.next∧aI b 2 v (fT n (a.take i)) g) a.length ⟨0,.an,0,rfl,bQ _,fun _ _=>rfl,O,P,Q,fun _ _ _ h=>h,br,ae,.nil⟩ ?_
 rintro m d b ⟨i,v,g,rfl,ab,l,D,s,u,hl,fP,al,k⟩;have M:rd 1 d=.func 157 [] []:=by rw[l 1 ag];exact N
 have E:rd 6 d=.ptr 7 0:=by rw[l 6 ag];exact S
 rw[XD];obtain⟨a9,a',ba⟩:=k.bg;by_cases Z:i<a.length
 ·obtain⟨q,z⟩:∃q,a[i]? =some q:=⟨a[i],cn Z⟩;obtain⟨am,ap⟩:=hi q (eT z);have G:=uO (n:=n) z;have w:decide ((i:Int)<((a.length:Nat):Int))=true:=bk aa;have w1:aC .i64 ((i:Int)+1)=((i+1:Nat):Int):=by rw[aH _ aa];rfl
  have ar:=rY n (a.take i);rw[dD,m5 ab]at ar;have f:=Em n q aa am ap;have a2:cG [V.int .i64 (n:Int),eN q]=true:=rfl;have ad:¬b.next=7:=aa
  have ac:¬b.next+1=7:=aa
  unfold gX cj at f;simp only[cj]at G;simp(disch:=omega)only[go_sem,La,Xx,M,D,s,u,w,uc,bJ,G];refine use f ?_;simp only[go_sem,decide_true,gG,E,ad,ac,fP];have p:∀y,y<b.next→((((b.push (.cells [ah 0,.an] 0)).set b.next (.cells [ah (n:Int),eN q] 0)).push (.cells [ah 0,.an] 0)).set (b.next+1) (.cells [ah (n:Int),eN q] 0)).get y=b.get y:=fun y r=>by
   rw[af.aK,aj aa,af.bf,aj (by simp only[go_sem];omega),af.aK,aj aa,af.bf,aj aa]
  have x:=k.low p (by simp only[go_sem];omega);refine gW (bytes:=32) x rfl ag a2 ⟨aa,ag⟩ fun v2 L T J bc B a3=>?_
  simp only[jh,GK]at B a3;have K:=(B 7 aa (x.ne (cs:=[eV n,ah (n:Int),eN o,v,.an]) (k:=0) (by rw[p 7 aa,fP]))).trans (by rw[p 7 aa,fP]);have a4:∀y c,y<7→H.get y=.cells c 0→L.get y=.cells c 0:=fun y c r f=>by
   have I:=(p y aa).trans (hl y c r f);exact(B y aa (x.ne I)).trans I
  obtain⟨aw,a0,a1⟩:=J.bg;simp only[go_sem,Xw,E,K,aw,a0,a1,u,w1];refine⟨a.length-(i+1),aa,i+1,v2,T,rfl,aa,fun t A=>?_,?_,?_,?_,fun y c r f=>?_,?_,?_,?_⟩
  ·simp(disch:=omega)only[bV];exact l t A
  iterate 3 simp only[go_sem,D,s]
  ·rw[af.aK,aj aa];exact a4 y c r f
  ·simp only[go_sem]
  ·simp only[go_sem];omega
  ·refine aI.set ?_ K _;obtain⟨W,e⟩:=fN.1 z;rw[kQ W,e,wq];simpa [fT,cj]using J
 ·have Y:i=a.length:=aa;subst Y;have w:decide (((a.length:Nat):Int)<((a.length:Nat):Int))=false:=aZ aa;rw[b_ (aE _)]at k;simp only[go_sem,La,s,u,w];exact U _ _ v g (fun t A=>by simp(disch:=omega)only[bV];exact l t A) hl fP k al
end Go.Proofs.YtddhncjmaahodaaGreatDoor
namespace Go.au
variable{c:af}{a:Nat}{b:List V}{h:Nat}
theorem aI.gn{v:V}(d:aI c a v b h):h=0∨h<c.next:=by
 cases d with
 |nil=>exact .inl rfl
 |cells _ _ _ _ _ d _=>exact .inr d
end Go.au
namespace Go.Proofs.YtddhncjmaahodaaGreatDoor
open Go.au Go.aF
theorem aq7(n:Nat)(hn:n=1∨n=2)(o:List ax)(J a:List (List ax))(hi:∀q∈a,tM n q)(le:a.length≤1000)(j:V)(f:Nat)(F:Fr)(H:af)(R:X→Fr→af→Prop)
 (W:rd 1 F=.func 157 [] []) (Z:rd 6 F=.ptr 7 0) (Y:rd 59 F=cA n a) (ab:rd 60 F=ah (a.length:Int)) (ac:rd 61 F=ah 0) (br:H.get 7=.cells [eV n,ah (n:Int),eN o,j,.an] 0) (ae:aI H 2 j (fT n J) f) (a4:8≤H.next)
 (hR:∀L l v g,(∀t,t<10→rd t L=rd t F)→(∀y c,y<7→H.get y=.cells c 0→l.get y=.cells c 0)→l.get 7=.cells [eV n,ah (n:Int),eN o,j,v] 0→aI l 2 j (fT n J) f→aI l 2 v (fT n a) g→R (.exit 2) L l):bx (.loop (pc 156 7)) R F H:=by
 refine bH (fun m d b=>∃(i:Nat) (v:V) (g:Nat),m=a.length-i∧i≤a.length∧(∀t,t<10→rd t d=rd t F)∧rd 59 d=cA n a∧rd 60 d=ah (a.length:Int)∧rd 61 d=ah (i:Int)∧(∀y c,y<7→H.get y=.cells c 0→b.get y=.cells c 0)∧b.get 7=.cells [eV n,ah (n:Int),eN o,j,v] 0∧8≤b.next∧aI b 2 j (fT n J) f∧(g=0∨g≠f)∧aI b 2 v (fT n (a.take i)) g) a.length ⟨0,.an,0,rfl,bQ _,fun _ _=>rfl,Y,ab,ac,fun _ _ _ h=>h,br,a4,ae,.inl rfl,.nil⟩ ?_
 rintro m d b ⟨i,v,g,rfl,a1,w,M,A,B,hl,fP,bo,E,Q,s⟩;have U:rd 1 d=.func 157 [] []:=by rw[w 1 ag];exact W
 have N:rd 6 d=.ptr 7 0:=by rw[w 6 ag];exact Z
 rw[XG];obtain⟨bs,bv,b0⟩:=s.bg;by_cases a0:i<a.length
 ·obtain⟨q,G⟩:∃q,a[i]? =some q:=⟨a[i],cn a0⟩;obtain⟨a5,a6⟩:=hi q (eT G);have O:=uO (n:=n) G;have D:decide ((i:Int)<((a.length:Nat):Int))=true:=bk aa;have w1:aC .i64 ((i:Int)+1)=((i+1:Nat):Int):=by rw[aH _ aa];rfl
  have a7:=rY n (a.take i);rw[dD,m5 a1]at a7;have k:=Em n q aa a5 a6;have ba:cG [V.int .i64 (n:Int),eN q]=true:=rfl;have a3:¬b.next=7:=aa
  have a2:¬b.next+1=7:=aa
  unfold gX cj at k;simp only[cj]at O;simp(disch:=omega)only[go_sem,Lb,XF,U,M,A,B,D,uc,bJ,O];refine use k ?_;simp only[go_sem,decide_true,gG,N,a3,a2,fP];have p:∀y,y<b.next→((((b.push (.cells [ah 0,.an] 0)).set b.next (.cells [ah (n:Int),eN q] 0)).push (.cells [ah 0,.an] 0)).set (b.next+1) (.cells [ah (n:Int),eN q] 0)).get y=b.get y:=fun y x=>by
   rw[af.aK,aj aa,af.bf,aj (by simp only[go_sem];omega),af.aK,aj aa,af.bf,aj aa]
  have u:=s.low p (by simp only[go_sem];omega);refine gW (bytes:=32) u rfl ag ba ⟨aa,ag⟩ fun v2 T C S r z bb=>?_
  simp only[jh,GK]at z bb;have am:=E.low p (by simp only[go_sem];omega);have ap:=am.other u (by simp only[go_sem];omega) z Q;have bi:f=0∨f<b.next:=E.gn
  have al:C=0∨C≠f:=by
   rcases r with⟨_,r⟩|⟨q0,r⟩
   ·simp only[go_sem]at r;omega
   ·rw[r];exact Q
  have K:=(z 7 aa (u.ne (cs:=[eV n,ah (n:Int),eN o,j,v]) (k:=0) (by rw[p 7 aa,fP]))).trans (by rw[p 7 aa,fP]);have bc:∀y c,y<7→H.get y=.cells c 0→T.get y=.cells c 0:=fun y c x k=>by
   have P:=(p y aa).trans (hl y c x k);exact(z y aa (u.ne P)).trans P
  obtain⟨a8,a9,a'⟩:=S.bg;simp only[go_sem,XE,N,K,a8,a9,a',B,w1];refine⟨a.length-(i+1),aa,i+1,v2,C,rfl,aa,fun t I=>?_,?_,?_,?_,fun y c x k=>?_,?_,?_,?_,?_,?_⟩
  ·simp(disch:=omega)only[bV];exact w t I
  iterate 3 simp only[go_sem,M,A]
  ·rw[af.aK,aj aa];exact bc y c x k
  ·simp only[go_sem]
  ·simp only[go_sem];omega
  ·exact ap.set K _
  ·exact al
  ·refine aI.set ?_ K _;obtain⟨ar,e⟩:=fN.1 G;rw[kQ ar,e,wq];simpa [fT,cj]using S
 ·have aw:i=a.length:=aa;subst aw;have D:decide (((a.length:Nat):Int)<((a.length:Nat):Int))=false:=aZ aa;rw[b_ (aE _)]at s;simp only[go_sem,Lb,A,B,D];exact hR _ _ v g (fun t I=>by simp(disch:=omega)only[bV];exact w t I) hl fP E s
theorem aq8(n:Nat)(c:n=1∨n=2)(o:List ax)(b a:List (List ax))(t:tM n o)(hi:∀q∈b,tM n q)(I:∀q∈a,tM n q)(Q:b.length≤1000)(P:a.length≤1000):
 aW 156 [lN n o b a,.func 157 [] []] (.az [lN n o b a,ah 0]):=by
 refine fE (.cons (vm n c o b a) (.cons (.func 157 .nil .nil) .nil)) (aT ajZ ?_);have L:(xT n).length=n:=by rcases c with e|e<;>rw[e]<;>rfl
 have J:bY (xT n):=by
  have:=FO n c;cases this with
  |row _ h=>exact h
 have H:aW 227 [eV n] (eV n):=KF 227 (xT n) n aa L J (.inl rfl);have u:=Em n o aa t.1 t.2;unfold gX cj at u;have N:bg (eV n)=true:=rfl;have O:cellsOf (eV n)=[eV n]:=rfl;have bA:V.one (eV n)=true:=rfl;simp only[go_sem,d156,XC,lN,ig];refine use H ?_;simp only[go_sem,XB,N,O,bA];refine use u ?_;simp only[go_sem,XA,Xz,Xy,decide_true,gG];refine aq6 n c o b a hi Q _ _ _ ?_ ?_ ?_ ?_ ?_ ?_ ?_ ?_
 iterate 6 simp only[go_sem]
 ·simp only[go_sem];decide
 intro f U T D d j br K M;have A:rd 1 f=.func 157 [] []:=by rw[d 1 ag];simp only[go_sem]
 have B:rd 2 f=.ptr 5 0:=by rw[d 2 ag];simp only[go_sem]
 have C:rd 4 f=.ptr 6 0:=by rw[d 4 ag];simp only[go_sem]
 have p:rd 6 f=.ptr 7 0:=by rw[d 6 ag];simp only[go_sem]
 have E:=j 5 (ig n o b a) ag (by simp only[go_sem];rfl);have F:=j 6 [.an,ah 0,.an,.an,.an] ag (by simp only[go_sem]);clear d j;simp only[go_sem,XI,B,E,ig];refine aq7 n c o b a I P T D _ _ _ ?_ ?_ ?_ ?_ ?_ br K M ?_
 iterate 5 simp only[go_sem,A,p]
 intro m W v2 X r G fP w x;have y:rd 4 m=.ptr 6 0:=by rw[r 4 ag];simp only[go_sem,C]
 have z:rd 6 m=.ptr 7 0:=by rw[r 6 ag];simp only[go_sem,p]
 have k:=G 6 _ ag F;obtain⟨Y,Z,R⟩:=w.bg;obtain⟨q1,ac,S⟩:=x.bg;simp only[go_sem,XH,y,z,k,fP,R,S,bA];have s:∀(i:af) v g l,aI i 2 v (fT n l) g→bR i (af.zero i.next) v (cA n l):=fun i v g l h=>Oo h (fun _ _ _=>kN)
 exact⟨_,.az (.cons (.agg (.cons (.same _) (.cons (.same _) (.cons (.same _) (.cons (s _ _ _ _ (w.set k _)) (.cons (s _ _ _ _ (x.set k _)) .nil)))))) (.cons (.same _) .nil)),.az (.cons (vm n c o b a) (.cons (.int _ _) .nil)),rfl⟩
@[go_sem]theorem alR(n:Nat)(l:List (List ax)):bg (cA n l)=true:=rfl
@[go_sem]theorem auA(n:Nat)(l:List (List ax)):cellsOf (cA n l)=[cA n l]:=rfl
@[go_sem]theorem av4(n:Nat)(l:List (List ax)):V.one (cA n l)=true:=rfl
@[go_sem]theorem au8(n:Nat):bg (eV n)=true:=rfl
@[go_sem]theorem auq(n:Nat):cellsOf (eV n)=[eV n]:=rfl
@[go_sem]theorem avV(n:Nat):V.one (eV n)=true:=rfl
theorem DP(n:Nat):∀l,cG (fT n l)=true
 |[]=>rfl
 |p::l=>by
  rw[rj];intro v a;rw[fT]at a;rcases gI.1 a with h|h
  ·exact rj.1 (show cG (cj n p)=true from rfl) v h
  ·exact rj.1 (DP n l) v h
theorem Ek(n:Nat)(a b:List (List ax))(c:a.length≤1000)(d:b.length≤1000):aW 155 [.row 2 [cA n a,cA n b]] (cA n (a++b)):=by
 have h:=UL (fT n a) (fT n b) a.length b.length (rY n a) (rY n b) (BH n a) (BH n b) (DP n a) (DP n b) ⟨c,d⟩;rw[←wq,←aS]at h;exact h
def IN(n:Nat)(o:List ax)(f e s:List (List ax))(a b c:Nat)(d:Fr)(k:Nat)(F:Fr)(H:af):Prop:=∃i:Nat,k=s.length-i∧i≤s.length∧(∀t,t<10→rd t F=rd t d)∧rd a F=cA n s∧rd b F=ah (s.length:Int)∧rd c F=ah (i:Int)∧
 H.get 5=.cells (ig n o f e) 0∧H.get 6=.cells [.an,ah 0,.an,.an,.an] 0∧GT H∧7≤H.next
theorem agF(n:Nat)(Q:n=1∨n=2)(o:List ax)(h d s:List (List ax))(M:∀q∈s,jo n q)(S:s.length≤1000)(F:Fr)(H:af)(R:X→Fr→af→Prop)
 (z:rd 21 F=cA n s) (A:rd 22 F=ah (s.length:Int)) (B:rd 23 F=ah 0) (C:H.get 5=.cells (ig n o h d) 0) (D:H.get 6=.cells [.an,ah 0,.an,.an,.an] 0) (G:GT H) (K:7≤H.next)
 (E:∀j a,(∀t,t<10→rd t j=rd t F)→a.get 5=.cells (ig n o h d) 0→a.get 6=.cells [.an,ah 0,.an,.an,.an] 0→GT a→7≤a.next→R (.exit 0) j a):bx (.loop (pc 101 3)) R F H:=by
 refine bH (IN n o h d s 21 22 23 F) s.length ⟨0,rfl,bQ _,fun _ _=>rfl,z,A,B,C,D,G,K⟩ ?_;rintro m O k ⟨i,rfl,P,v,l,b,c,x,y,r,L⟩;rw[U_];by_cases J:i<s.length
 ·obtain⟨q,w⟩:∃q,s[i]? =some q:=⟨s[i],cn J⟩;have f:=z2 n aa q (M q (eT w));have p:=uO (n:=n) w;have e:decide ((i:Int)<((s.length:Nat):Int))=true:=bk aa;have N:aC .i64 ((i:Int)+1)=((i+1:Nat):Int):=by rw[aH _ aa];rfl
  unfold gX at f;simp only[cj]at p f;have u:GT ((k.push (.cells [ah 0,.an] 0)).set k.next (.cells [ah (n:Int),eN q] 0)):=(r.push aa _).set aa _
  simp(disch:=omega)only[go_sem,KS,U3,l,b,c,e,uc,bJ,p];refine bL f u ?_;simp only[go_sem,U2,gG,c,N];refine⟨s.length-(i+1),aa,i+1,rfl,aa,fun t g=>?_,?_,?_,?_,?_,?_,u,?_⟩
  ·simp(disch:=omega)only[bV];exact v t g
  iterate 3 simp only[go_sem,l,b]
  ·rw[af.aK,aj aa,af.bf,aj aa,x]
  ·rw[af.aK,aj aa,af.bf,aj aa,y]
  ·simp only[go_sem];omega
 ·have I:i=s.length:=aa;subst I;have e:decide (((s.length:Nat):Int)<((s.length:Nat):Int))=false:=aZ aa;simp only[go_sem,KS,b,c,e];exact E _ _ (fun t g=>by simp(disch:=omega)only[bV];exact v t g) x y r L
theorem agG(n:Nat)(T:n=1∨n=2)(o:List ax)(j e s:List (List ax))(U:s.length≤1000)(F:Fr)(H:af)(R:X→Fr→af→Prop)
 (y:rd 3 F=.ptr 5 0) (z:rd 32 F=cA n s) (A:rd 33 F=ah (s.length:Int)) (B:rd 34 F=ah 0) (C:H.get 5=.cells (ig n o j e) 0) (D:H.get 6=.cells [.an,ah 0,.an,.an,.an] 0) (G:GT H) (M:7≤H.next)
 (E:∀l a,(∀t,t<10→rd t l=rd t F)→a.get 5=.cells (ig n o j e) 0→a.get 6=.cells [.an,ah 0,.an,.an,.an] 0→GT a→7≤a.next→R (.exit 2) l a):bx (.loop (pc 101 7)) R F H:=by
 refine bH (IN n o j e s 32 33 34 F) s.length ⟨0,rfl,bQ _,fun _ _=>rfl,z,A,B,C,D,G,M⟩ ?_;rintro m w b ⟨i,rfl,S,g,p,c,d,k,v,u,N⟩;have x:rd 3 w=.ptr 5 0:=by rw[g 3 ag];exact y
 rw[Vb];by_cases K:i<s.length
 ·obtain⟨q,O⟩:∃q,s[i]? =some q:=⟨s[i],cn K⟩;have r:=uO (n:=n) O;have f:decide ((i:Int)<((s.length:Nat):Int))=true:=bk aa;have Q:aC .i64 ((i:Int)+1)=((i+1:Nat):Int):=by rw[aH _ aa];rfl
  have L:cT (eV n)=some (.val (ah (n:Int))):=rfl;have P:¬b.next=5:=aa
  have I:GT ((b.push (.cells [ah 0,.an] 0)).set b.next (.cells [ah (n:Int),eN q] 0)):=(u.push aa _).set aa _
  simp only[cj]at r;simp(disch:=omega)only[go_sem,KT,Va,x,p,c,d,f,uc,bJ,r,k,ig,P,L,decide_true,gG];simp only[go_sem,U',d,Q];refine⟨s.length-(i+1),aa,i+1,rfl,aa,fun t h=>?_,?_,?_,?_,?_,?_,I,?_⟩
  ·simp(disch:=omega)only[bV];exact g t h
  iterate 3 simp only[go_sem,p,c]
  ·rw[af.aK,aj aa,af.bf,aj aa,k]
  ·rw[af.aK,aj aa,af.bf,aj aa,v]
  ·simp only[go_sem];omega
 ·have J:i=s.length:=aa;subst J;have f:decide (((s.length:Nat):Int)<((s.length:Nat):Int))=false:=aZ aa;simp only[go_sem,KT,c,d,f];exact E _ _ (fun t h=>by simp(disch:=omega)only[bV];exact g t h) k v u N
variable{a:Nat}{l:List ax}
theorem Co(h:jo a l):tM a l:=⟨fun c b=>(h.t c b).len,h.len⟩
theorem agO(p:fz)(h:p.aA)(s:List (List ax))(z:∀q∈s,jo p.n q)(ls:s.length≤8):c4 101 [js p,cA p.n s,.an] (.az [lN p.n p.obj (p.is++s) p.es,ah 0]):=by
 have b:=h.n;have Z:=h.li;have Y:=h.le;have j:=Ek p.n s [] aa aB;have C:=Ek p.n p.is s aa aa;have k:=Ek p.n p.es [] aa aB;rw[fG]at j k;have K:=Co (rN b ag h.obj);have J:∀q∈p.is++s,tM p.n q:=fun q hq=>by
  rcases gI.1 hq with hq|hq
  ·exact Co (rN b ag (h.is q hq))
  ·exact Co (z q hq)
 have I:∀q∈p.es,tM p.n q:=fun q hq=>Co (rN b ag (h.es q hq))
 have A:=aq8 p.n b p.obj (p.is++s) p.es K J I (by rw[aS];omega) aa;have B:=Sr p h;unfold js at B;unfold lN ig at A;refine dm (.cons (sG p b) (.cons (xz _ _) (.cons .an .nil))) (aT ajz ?_);simp only[go_sem,d101,U9,js];refine bL B e8 ?_;simp only[go_sem,U8,gG];refine jk (b:=7) (cs:=[cA p.n s,.an]) (args2:=[.row 2 [cA p.n s,cA p.n []]]) j ?_ ⟨0,2,.known 2,dj.2 rfl⟩ (.cons (.row (m:=2) (cs:=[cA p.n s,.an]) ?_ ag ?_ (.cons (.same _) (.cons .fK .nil))) .nil) ?_
 ·simp only[go_sem]
 ·rw[fJ (cs:=[cA p.n s,.an]) (by simp only[go_sem])];rfl
 ·simp only[go_sem]
 have X:cT (cA p.n s)=some (.val (ah (s.length:Int))):=rfl;have W:bg (cA p.n s)=true:=rfl;simp only[go_sem,U7];refine agF p.n b p.obj p.is p.es s z aa _ _ _ ?_ ?_ ?_ ?_ ?_ e8 ?_ ?_
 iterate 3 simp only[go_sem]
 ·simp only[go_sem];rfl
 ·simp only[go_sem]
 ·simp only[go_sem];decide
 intro d T a v w x y;have o:rd 1 d=cA p.n s:=by rw[a 1 ag];simp only[go_sem]
 have r:rd 2 d=.an:=by rw[a 2 ag];simp only[go_sem]
 have g:rd 3 d=.ptr 5 0:=by rw[a 3 ag];simp only[go_sem]
 have t:rd 6 d=.ptr 6 0:=by rw[a 6 ag];simp only[go_sem]
 have u:rd 8 d=cA p.n s:=by rw[a 8 ag];simp only[go_sem]
 clear a;simp only[go_sem,U6,u];refine agG p.n b p.obj p.is p.es s aa _ _ _ ?_ ?_ ?_ ?_ v w x y ?_
 iterate 4 simp only[go_sem,g]
 intro e c a i L H U;have l:rd 1 e=cA p.n s:=by rw[a 1 ag];simp only[go_sem,o]
 have m:rd 2 e=.an:=by rw[a 2 ag];simp only[go_sem,r]
 have f:rd 3 e=.ptr 5 0:=by rw[a 3 ag];simp only[go_sem,g]
 have F:rd 6 e=.ptr 6 0:=by rw[a 6 ag];simp only[go_sem,t]
 clear a o r g t u v w x y;have M:cT V.an=some (.val (ah 0)):=rfl;have R:aC .i64 ((p.is.length:Int)+(s.length:Int))=((p.is.length+s.length:Nat):Int):=by rw[aH _ aa];rfl
 have S:aC .i64 ((p.es.length:Int)+0)=(p.es.length:Int):=by rw[aH _ aa];omega
 have D:decide (((p.is.length+s.length:Nat):Int)>16)=false:=aZ aa;have E:decide ((p.es.length:Int)>16)=false:=aZ aa;have P:¬c.next=5:=aa
 simp only[go_sem,U5,l,m,f,i,ig,M,R,S,D,E];simp only[go_sem,U4,l,f,i,ig];refine jk (b:=c.next) (cs:=[cA p.n p.is,cA p.n s]) (args2:=[.row 2 [cA p.n p.is,cA p.n s]]) C ?_ ⟨0,2,.known 2,dj.2 rfl⟩ (.cons (.row (m:=2) (cs:=[cA p.n p.is,cA p.n s]) ?_ ag ?_ (.cons (.same _) (.cons (.same _) .nil))) .nil) ?_
 ·simp only[go_sem]
 ·rw[fJ (cs:=[cA p.n p.is,cA p.n s]) (by simp only[go_sem])];rfl
 ·simp only[go_sem]
 have Q:¬c.next=6:=aa
 have N:¬c.next+1=5:=aa
 have O:¬c.next+1=6:=aa
 simp only[go_sem,Vd,m,f,i,ig,P];refine jk (b:=c.next+1) (cs:=[cA p.n p.es,.an]) (args2:=[.row 2 [cA p.n p.es,cA p.n []]]) k ?_ ⟨0,2,.known 2,dj.2 rfl⟩ (.cons (.row (m:=2) (cs:=[cA p.n p.es,.an]) ?_ ag ?_ (.cons (.same _) (.cons .fK .nil))) .nil) ?_
 ·simp only[go_sem]
 ·rw[fJ (cs:=[cA p.n p.es,.an]) (by simp only[go_sem])];rfl
 ·simp only[go_sem]
 have G:bz (.az [lN p.n p.obj (p.is++s) p.es,ah 0]):=.az (.cons (vm _ b _ _ _) (.cons (.int _ _) .nil));simp only[go_sem,Vc,f,N];refine use A ?_;simp only[go_sem,F,L,Q,O];refine bZ ?_ rfl G
 repeat' first|exact H|omega|(simp only[go_sem];omega)|refine GT.set ?_ ?_ _|refine GT.push ?_ ?_ _
section
open Go.au Go.Proofs.Tryz
set_option maxRecDepth 100000
attribute [local irreducible] rd kc ex bE bF re rg mv bS pick alloc box bi bs be bp st fa cz cN dI c8 dN eB eA ms dx ek ej dY mx mn dX ap ee cJ dZ d_ cm ec ext er neg Go.au.not en ei ep eo ey eu ef ew dR dP u8
def adF:=ai 372 f372 0
def adG:=ai 372 f372 1
def adH:=ai 372 f372 2
def MR:=ai 372 f372 3
def adI:=ai 372 f372 4
def MS:=ai 372 f372 5
def MT:=ai 372 f372 6
def d372:=aU 372 f372
def O6:=aR f372 372
end
def fo(e:List Nat):List Nat:=e++aX (6-e.length) 0
variable{d:List Nat}
theorem uu(h:d.length≤6):(fo d).length=6:=by simp[fo];omega
theorem G5(e:List Nat):(fo e).sum=e.sum:=by simp[fo]
theorem G6(e:List Nat):dc e=cv (fo e):=by simp[dc,fo,cv]
theorem alQ(t:ax):bg (nT t)=true:=rfl
theorem UG(t:ax):cellsOf (nT t)=bI t:=rfl
theorem UC(s t:ax)(d:s.2.length≤6)(e:t.2.length≤6)(j:s.2.sum≤24)(st:t.2.sum≤24):aW 275 [nT s,nT t] (ah (ord (fo t.2) (fo s.2))):=by
 refine cO (.cons (FM s) (.cons (FM t) .nil)) (.int _ _) (aT akO ?_);have g:∀b,slice3 (nB 6 1) false false false [.ptr b 0]=some (.val (.slice b 0 6 (.known 6))):=fun b=>rfl
 have h:=uu d;have i:=uu e;simp only[go_sem,d275,aaP,alQ,UG,g];have c:∀(H:af) (b:Nat) (u:ax),u.2.length≤6→H.get b=.cells (bI u) 0→bR H (af.zero H.next) (.slice b 0 6 (.known 6)) (b6 (fo u.2)):=fun H b u a f=>by
  unfold b6;rw[uu a];refine .row (m:=6) (cs:=cv (fo u.2)) ?_ ag (af.e7 _ _) (cD.refl _);rw[fJ f,c_,e4,bI,G6,ak (by rw[aS,j0,uu a];omega),sk (by rw[j0,uu a])]
 refine(w7 (R:=fun v=>v=ah (ord (fo t.2) (fo s.2))) (.cons (c _ _ t e ?_) (.cons (c _ _ s d ?_) .nil)) ((Qw (fo t.2) (fo s.2) aa aa (by rw[G5];omega) (by rw[G5];omega) _).mono ?_)).mono ?_
 iterate 2 simp only[go_sem]
 ·rintro _ _ ⟨rfl,rfl⟩;exact⟨_,fun b=>.int _ _,rfl⟩
 ·rintro _ _ ⟨rfl,rfl⟩;simp only[go_sem]
@[go_sem]theorem auF(x y:V):ru [.func 275 [] [],x,y]=some (.fn 275,[x,y]):=rfl
variable{b:List V}
theorem PC{d c:List V}(h:b.length=a)(e:c.length=d.length):cC c (b++d) a=some (b++c):=by
 rw[lC,ak (by rw[aS];omega),sk h,List.drop_eq_nil_of_le (by rw[aS];omega),fG]
theorem amE{c a:List V}(h:a.length=b.length):cC a (b++c) 0=some (a++c):=by
 rw[lC,ak (by rw[aS];omega),q6,eI,dK,List.drop_left' h.symm]
theorem Ca{ys:List V}(h:b.length=a):cq (eC (b++ys) 0) a=some b:=by
 rw[c_,e4,ak (by rw[aS];omega),sk h]
variable{h:Nat}
theorem zE{c:List V}(d:b.length=h)(e:c.length=a):cq (eC (b++c) h) a=some c:=by
 rw[kG,List.drop_left' d,e4,ak aa,b_ aa]
theorem RT(s t:ax)(i:s.2.length≤6)(j:t.2.length≤6)(C:s.2.sum≤24)(st:t.2.sum≤24)(H:af)(b:Nat)(c:Cap)(g:H.get b=.cells (bI s++bI t) 0):
 c7 372 [.slice b 0 2 c,ah 0,ah 2,.func 275 [] []] H fun _ q=>q=if ord (fo s.2) (fo t.2)<0 then(H.set b (.cells (bI s++bI s) 0)).set b (.cells (bI t++bI s) 0)else H:=by
 have h:=UC t s j i st C;unfold nT at h;have d:=lQ i;have n:=lQ j;have k:dJ none 10 [.slice b 0 2 c,ah 0]=some (.val (.ptr b 0)):=b3 ag;have l:dJ none 10 [.slice b 0 2 c,ah 1]=some (.val (.ptr b 10)):=b3 ag;have f:=Ca (ys:=bI t) d;rw[c_]at f;have m:=zE d n;have v:bg (.agg (bI s))=true:=rfl;have w:cellsOf (.agg (bI s))=bI s:=rfl;have bA:bg (.agg (bI t))=true:=rfl;have x:cellsOf (.agg (bI t))=bI t:=rfl;have y:cr (bI s)=10:=by rw[gO,d]
 have z:cr (bI t)=10:=by rw[gO,n]
 have A:cC (bI s) (bI s++bI t) 10=some (bI s++bI s):=PC d aa;have B:cC (bI t) (bI s++bI s) 0=some (bI t++bI s):=amE aa;have D:aC .i64 ((0:Int)+1)=1:=rfl;have p:aC .i64 ((1:Int)+1)=2:=rfl;have o:aC .i64 ((1:Int)-1)=0:=rfl;have d12:decide ((1:Int)<2)=true:=rfl;have d22:decide ((2:Int)<2)=false:=rfl;have u:decide ((1:Int)>0)=true:=rfl;have r:decide ((0:Int)>0)=false:=rfl;refine aT O6 ?_;simp only[go_sem,d372,MT,D];refine qX 3 ?_;rw[kz];simp only[go_sem,MS,adI,d12];refine qX 3 ?_;rw[kz];simp only[go_sem,adH,u,o,k,l,g,f,m];refine use h ?_;by_cases a:ord (fo s.2) (fo t.2)<0
 ·rw[ak a];have e:decide (ord (fo s.2) (fo t.2)<0)=true:=bk a;simp only[go_sem,adG,adF,e,o,k,l,g,f,m,v,w,bA,x,y,z,A,B,sy];rw[kz];simp only[go_sem,r];simp only[go_sem,MR,p];rw[kz];simp only[go_sem,d22]
 ·rw[aj a];have e:decide (ord (fo s.2) (fo t.2)<0)=false:=aZ a;simp only[go_sem,MR,e,p];rw[kz];simp only[go_sem,d22]
theorem aqm(v:V)(hl:cT v=some (.val (ah 1)))(H:af):c7 372 [v,ah 0,ah 1,.func 275 [] []] H fun _ a=>a=H:=by
 have b:aC .i64 ((0:Int)+1)=1:=rfl;have d11:decide ((1:Int)<1)=false:=rfl;refine aT O6 ?_;simp only[go_sem,d372,MT,b];refine qX 1 ?_;rw[kz];simp only[go_sem,MS,d11]
theorem TF:pM 5 pZ 145 [ay 1] (ah 1)=true:=by kernel_rfl
theorem TG:pM 5 pZ 145 [ay 2] (ah 2)=true:=by kernel_rfl
theorem TH(m:Int)(a:m=1∨m=2):aW 145 [ay m] (ah m):=by
 rcases a with rfl|rfl
 ·exact rQ qY TF
 ·exact rQ qY TG
theorem RU(v:V)(m:Int)(b:m=1∨m=2)(hl:cT v=some (.val (ah m)))(H:af)(Q:af→Prop)(e:c7 372 [v,ah 0,ah m,.func 275 [] []] H fun _ a=>Q a):
 c7 274 [v,.func 275 [] []] H fun _ a=>Q a:=by
 have f:aC .u64 m=m:=by rcases b with rfl|rfl<;>rfl
 have g:aC .i64 (m-0)=m:=by rcases b with rfl|rfl<;>rfl
 have h:decide (12<m)=false:=by rcases b with rfl|rfl<;>rfl
 refine aT akN ?_;simp only[go_sem,d274,aaO,hl,f];refine use (TH m b) ?_;simp only[go_sem];have d:c7 334 [v,ah 0,ah m,ah m,.func 275 [] []] H fun _ a=>Q a:=by
  refine aT ak7 ?_;simp only[go_sem,d334,acD,acC];refine qX 1 ?_;rw[kz];simp only[go_sem,acB,acA,g,h];refine e.mono fun i a c=>?_
  simp only[go_sem];exact c
 refine d.mono fun i a c=>?_
 simp only[go_sem];exact c
def hY(t:ax):List ax:=if t.1.num=0 then []else [t]
def xx(s t:ax)(i:Nat):ax:=if i=0 then s else t
def oG(t:ax):V×V:=(.agg (dc t.2),c5 t.1)
def wC(l d:List Nat):Prop:=(l=[1,0]∧d=[])∨(l=[1]∧d=[0])∨(l=[0]∧d=[1])∨(l=[]∧(d=[0,1]∨d=[1,0]))
theorem wC.next{b:List Nat}(h:wC d b)(hi:a∈d):wC (oO a d) (b++[a])∧a<2∧(oO a d).length+1=d.length:=by
 rcases h with⟨rfl,rfl⟩|⟨rfl,rfl⟩|⟨rfl,rfl⟩|⟨rfl,_⟩
 ·simp only[g7,p6,or_false]at hi;rcases hi with rfl|rfl
  ·exact⟨.inr (.inr (.inl ⟨rfl,rfl⟩)),ag,rfl⟩
  ·exact⟨.inr (.inl ⟨rfl,rfl⟩),ag,rfl⟩
 ·simp only[g7,p6,or_false]at hi;subst hi;exact⟨.inr (.inr (.inr ⟨rfl,.inl rfl⟩)),ag,rfl⟩
 ·simp only[g7,p6,or_false]at hi;subst hi;exact⟨.inr (.inr (.inr ⟨rfl,.inr rfl⟩)),ag,rfl⟩
 ·cases hi
theorem wC.room{a:List Nat}(h:wC d a):d.length+a.length=2:=by
 rcases h with⟨rfl,rfl⟩|⟨rfl,rfl⟩|⟨rfl,rfl⟩|⟨rfl,rfl|rfl⟩<;>rfl
def fW(s t:ax)(d:List Nat):List ax:=d.flatMap fun i=>hY (xx s t i)
theorem Qb(t:ax):(hY t).length≤1:=by unfold hY;split<;>simp
theorem Jj(s t:ax):∀d,(fW s t d).length≤d.length
 |[]=>aE 0
 |i::d=>by
  have:=Jj s t d;have a:=Qb (xx s t i);unfold fW at this⊢;rw[List.flatMap_cons,aS,cL];omega
theorem Jk(s t:ax)(d:List Nat)(i:Nat):fW s t (d++[i])=fW s t d++hY (xx s t i):=by simp[fW]
theorem Tp{s t:ax}(b:s.2.length≤6)(c:t.2.length≤6)(d:List Nat):∀x∈fW s t d,x.2.length≤6:=by
 intro x a;unfold fW at a;obtain⟨i,_,hi⟩:=List.mem_flatMap.1 a;unfold hY at hi;split at hi
 ·cases hi
 ·rw[dj.1 hi];unfold xx;split<;>assumption
theorem Pz{a:List V}(h:b.length≤a.length):nr b a=some (b++a.drop b.length):=by
 have:=Gy (xs:=b) (l:=a) h;cases a with
 |nil=>exact this
 |cons y a=>exact this
theorem Tl(e:List Nat):cG (dc e)=true:=by rw[G6];exact yX _
variable{c:af}
theorem agn{m since last:Nat}{left:List Nat}{es:List (V×V)}{e:V×V}(f:c.get a=.ck (.iter m since left (some h) last))(g:c.get m=.ck (.map es))(hl:es.length=last)(d:es[h]? =some e):sF [.ptr a 0] c=some (.az [e.1,e.2]):=by
 unfold sF;simp only[f];have b:c.jg m=some es:=by unfold af.jg;rw[g]
 rw[b];show aQ (bn (cr es) last) (ao (cK es h) fun e=>some (V.az [e.1,e.2]))=_;rw[gO,hl,sn,gF,d];rfl
def rZ:List V:=[ah 0,ah 0,ah 0,ah 0,ah 0,ah 0,aD,.an,aD,.an]
def Dm(s t:ax)(N m a b:Nat)(c:af)(k:Nat)(F:Fr)(H:af):Prop:=∃(l d:List Nat) (e:Option Nat) (L:List V),k=l.length∧wC l d∧rd 40 F=.ptr a 0∧rd 8 F=.slice b 0 (fW s t d).length (.known 2)∧
 H.get m=.ck (.map [oG s,oG t])∧H.get a=.ck (.iter m 2 l e 2)∧H.get b=.cells L 0∧L.length=20∧L.take ((fW s t d).length*10)=gd (fW s t d)∧(∀y,y<N→H.get y=c.get y)∧a<H.next
theorem UJ(s t:ax)(hs:s.2.length≤6)(ht:t.2.length≤6)(N m a b:Nat)(b7:N≤m)(b':m<b)(bv:b<a)(w:af)(R:X→Fr→af→Prop)(k:Nat)(F:Fr)(H:af)(h:Dm s t N m a b w k F H)
 (hR:∀J n d L,(d=[0,1]∨d=[1,0])→rd 8 J=.slice b 0 (fW s t d).length (.known 2)→n.get b=.cells L 0→L.length=20→L.take ((fW s t d).length*10)=gd (fW s t d)→(∀y,y<N→n.get y=w.get y)→a<n.next→R (.exit 4) J n):
 bx (pc 225 12) (fq (oY (Dm s t N m a b w) k) R) F H:=by
 obtain⟨l,d,ar,L,rfl,E,o,B,p,aw,C,K,D,G,a7⟩:=h;rw[Zs];simp only[go_sem,o];refine⟨a,m,2,l,ar,2,[oG s,oG t],rfl,aw,p,?_,?_⟩
 ·intro i T vx hi hl;have hil:i∈l:=by
   rcases hl with h|h
   ·exact h
   ·obtain⟨h1,_⟩:=fN.1 hi;have:i<2:=h1;omega
  obtain⟨M,b1,b2⟩:=E.next hil
  obtain⟨u,j⟩:∃u,xx s t i=u:=⟨_,rfl⟩;have v:u.2.length≤6:=by rw[←j];unfold xx;split<;>assumption
  have P:(T,vx)=oG u:=by
   have a6:i=0∨i=1:=aa;rcases a6 with rfl|rfl
   ·rw[←j];exact(Option.some.inj hi).symm
   ·rw[←j];exact(Option.some.inj hi).symm
  obtain⟨rfl,rfl⟩:T=.agg (dc u.2)∧vx=.agg (b9 u.1):=⟨congrArg Prod.fst P,congrArg Prod.snd P⟩;have a3:sF [.ptr a 0] (H.set a (.ck (.iter m 2 (oO i l) (some i) 2)))=some (.az [.agg (dc u.2),.agg (b9 u.1)]):=agn (m:=m) (since:=2) (last:=2) (left:=oO i l) (es:=[oG s,oG t]) (e:=(.agg (dc u.2),.agg (b9 u.1))) (by rw[af.aK,ak rfl]) (by rw[af.aK,aj aa];exact p) rfl hi;have k1:∀e,bg (.agg (dc e))=true:=fun _=>rfl
  have k2:∀e,cellsOf (.agg (dc e))=dc e:=fun _=>rfl
  have c:=zU v;have bA:cr (dc u.2)=6:=by rw[gO,c]
  have bb:cC (dc u.2) [ah 0,ah 0,ah 0,ah 0,ah 0,ah 0] 0=some (dc u.2):=vK c;have bc:∀q,bg (.agg (b9 q))=true:=fun _=>rfl
  have bd:∀q,cellsOf (.agg (b9 q))=b9 q:=fun _=>rfl
  have fP:∀q,cr (b9 q)=4:=fun _=>rfl
  have mI:∀q,cC (b9 q) [aD,.an,aD,.an] 0=some (b9 q):=fun _=>rfl
  have nW:∀q,cG (b9 q)=true:=fun _=>rfl
  have S:∀q,cq (b9 q) 4=some (b9 q):=fun _=>rfl
  have qD:cq (dc u.2) 6=some (dc u.2):=iC c;have g:=lQ v;have xG:nr (dc u.2) rZ=some (dc u.2++[aD,.an,aD,.an]):=by
   rw[Pz (by rw[c];decide),c];rfl
  have zu:cC (b9 u.1) (dc u.2++[aD,.an,aD,.an]) 6=some (bI u):=PC c rfl;have ud:bg (.agg (bI u))=true:=rfl;have ajV:cellsOf (.agg (bI u))=bI u:=rfl;have BZ:cr (bI u)=10:=by rw[gO,g]
  have B0:nr (bI u) rZ=some (bI u):=by
   rw[Pz (by rw[g];decide),g];show some (bI u++[])=_;rw[fG]
  unfold rZ at xG B0;have U:¬H.next+1=H.next:=aa
  have V:¬H.next=b:=aa
  have W:¬H.next+1=b:=aa
  have Y:¬H.next=a:=aa
  have Z:¬H.next+1=a:=aa
  have ab:¬H.next=m:=aa
  have ac:¬H.next+1=m:=aa
  have ad:¬a=b:=aa;have ae:¬a=m:=aa;have bs:¬H.next=H.next+1:=aa
  have Q:=Gc u.1;unfold c5 at Q;simp only[go_sem,LF,Zr,o,cL,kP,Nat.reduceAdd,a3,k1,k2,bA,bb,bc,bd,fP,mI,nW,Tl,U,bs];simp only[go_sem,ZA,S];refine use Q ?_;have ca:=E.room;have b0:=Jj s t d;by_cases r:u.1.num=0
  ·have f:fW s t (d++[i])=fW s t d:=by rw[Jk,j,hY,ak r,fG]
   simp only[go_sem,LI,bk r,gG];refine⟨(oO i l).length,aa,oO i l,d++[i],some i,L,rfl,M,?_,?_,?_,?_,?_,K,?_,?_,?_⟩
   iterate 5 simp only[go_sem,o,B,f,ab,ac,ae,p,Y,Z,V,W,ad,C]
   ·rw[f];exact D
   ·intro y I;have x:¬H.next=y:=aa
    have z:¬H.next+1=y:=aa
    have A:¬a=y:=aa;simp only[go_sem,x,z,A];exact G y I
   ·simp only[go_sem];omega
  ·have f:fW s t (d++[i])=fW s t d++[u]:=by rw[Jk,j,hY,aj r]
   simp only[go_sem,LI,aZ r,iY,U,bA,fP,S,qD,xG,zu,ud,ajV,BZ,B0,B];refine FF (b:=b) (n:=2) (L:=L) (new:=bI u) ?_ aa (lQ v) aa ⟨ag,ag⟩ (sy u) ?_ ?_
   ·simp only[go_sem,V,W,ad,C]
   ·simp only[go_sem];omega
   have cb:¬H.next+1+1=b:=aa
   have be:¬b=m:=aa;have bi:¬b=a:=aa;have bj:¬H.next+1+1=m:=aa
   have bo:¬H.next+1+1=a:=aa
   simp only[go_sem];refine⟨(oO i l).length,aa,oO i l,d++[i],some i,L.take ((fW s t d).length*10)++bI u++L.drop ((fW s t d).length*10+10),rfl,M,?_,?_,?_,?_,?_,?_,?_,?_,?_⟩
   iterate 5 simp only[go_sem,o,f,aS,cL,kP,ab,ac,ae,be,bj,p,Y,Z,bi,bo]
   ·simp only[aS,dD,gZ,lQ v];omega
   ·have O:=FG (fW s t d) (Tp hs ht d);rw[f,Bx,D,aS,gH,cF,ga,yM (by rw[aS,O,g];omega),b_ (by rw[aS,O,g];omega)];simp[gd]
   ·intro y I;have x:¬H.next=y:=aa
    have z:¬H.next+1=y:=aa
    have A:¬a=y:=aa;have a4:¬H.next+1+1=y:=aa
    have a5:¬b=y:=aa;simp only[go_sem,x,z,A,a4,a5];exact G y I
   ·simp only[go_sem];omega
 ·intro hl;have hd:l=[]∧(d=[0,1]∨d=[1,0]):=by
   rcases E with⟨rfl,rfl⟩|⟨rfl,rfl⟩|⟨rfl,rfl⟩|⟨rfl,h⟩
   ·exact absurd (hl 0 aB) aB
   ·exact absurd (hl 1 aB) aB
   ·exact absurd (hl 0 aB) aB
   ·exact⟨rfl,h⟩
  simp only[go_sem,LF];exact hR _ _ d L hd.2 (by simp only[go_sem,B]) C K D G a7
theorem UI(s t:ax)(w:s.2.length≤6)(x:t.2.length≤6)(N m a b:Nat)(b7:N≤m)(u:m<b)(r:b<a)(R:X→Fr→af→Prop)(F:Fr)(H:af)(L:List V)(i:rd 40 F=.ptr a 0)(j:rd 8 F=.slice b 0 0 (.known 2))
 (o:H.get m=.ck (.map [oG s,oG t])) (n:H.get a=.ck (.iter m 2 [1,0] none 2)) (l:H.get b=.cells L 0) (p:L.length=20) (v:a<H.next)
 (q:∀e c d L,(d=[0,1]∨d=[1,0])→rd 8 e=.slice b 0 (fW s t d).length (.known 2)→c.get b=.cells L 0→L.length=20→L.take ((fW s t d).length*10)=gd (fW s t d)→(∀y,y<N→c.get y=H.get y)→a<c.next→R (.exit 4) e c):
 bx (.loop (pc 225 12)) R F H:=by
 refine bH (Dm s t N m a b H) 2 ⟨[1,0],[],none,L,rfl,.inl ⟨rfl,rfl⟩,i,j,o,n,l,p,rfl,fun _ _=>rfl,v⟩ ?_;intro k f g h;exact UJ s t w x N m a b b7 u r H R k f g h q
def d6:V→V→Option Bool:=yV [.int .i64,.int .i64,.int .i64,.int .i64,.int .i64,.int .i64]
variable{i:Option Nat}{m:Fr}{e:Fr→af→Prop}
@[go_sem↓]theorem asO{P:Program}(x:Fr→V):dA P a (ej x) i m c e=q_ i e m c (ug [x m] c):=rfl
theorem xQ{es:List (V×V)}(h:c.get a=.ck (.map es)):c.jg a=some es:=by unfold af.jg;rw[h]
variable{y:V→V→Option Bool}{s:V}
theorem amm{z:V}(h:c.get a=.ck (.map []))(d:y s s=some true):uh y z false [.map a,s] c=some z:=by
 show ao (y s s) (fun _=>ao (c.jg a) fun b=>ao (pC y s b 0) fun r=>Option.casesOn (motive:=fun _=>Option V) r (some (uk false z false)) (fun q=>some (uk false q.2 true)))=_;rw[d,xQ h];rfl
theorem amn{k1 v1 z:V}(h:c.get a=.ck (.map [(k1,v1)]))(d:y s s=some true)(e:y s k1=some false):uh y z false [.map a,s] c=some z:=by
 show ao (y s s) (fun _=>ao (c.jg a) fun b=>ao (pC y s b 0) fun r=>Option.casesOn (motive:=fun _=>Option V) r (some (uk false z false)) (fun q=>some (uk false q.2 true)))=_;rw[d,xQ h];show ao (ao (y s k1) _) _=_;rw[e];rfl
theorem arq{v:V}(h:c.get a=.ck (.map []))(d:y s s=some true):yA y [.map a,s,v] c=some (V.undef,c.set a (.ck (.map [(s,v)]))):=by
 show ao (y s s) (fun _=>ao (c.jg a) fun b=>ao (pC y s b 0) fun r=>Option.casesOn (motive:=fun _=>Option (V×af)) r (some (V.undef,c.set a (.ck (.map (cW b [(s,v)]))))) (fun q=>some (V.undef,c.set a (.ck (.map (zB b (s,v) q.1))))))=_;rw[d,xQ h];rfl
theorem ars{v k1 v1:V}(h:c.get a=.ck (.map [(k1,v1)]))(d:y s s=some true)(e:y s k1=some false):yA y [.map a,s,v] c=some (V.undef,c.set a (.ck (.map [(k1,v1),(s,v)]))):=by
 show ao (y s s) (fun _=>ao (c.jg a) fun b=>ao (pC y s b 0) fun r=>Option.casesOn (motive:=fun _=>Option (V×af)) r (some (V.undef,c.set a (.ck (.map (cW b [(s,v)]))))) (fun q=>some (V.undef,c.set a (.ck (.map (zB b (s,v) q.1))))))=_;rw[d,xQ h];show ao (ao (y s k1) _) _=_;rw[e];rfl
theorem I5(q:Rat)(c:a_ 1000 q)(H:af)(b:GT H):c7 112 [.agg [aD,.an,aD,.an],.agg (b9 q)] H fun v a=>v=.agg (b9 q)∧a=H:=by
 have h:=aoA 0 q (a:=1) (b:=1000) ⟨ag,ag⟩ c ag H b;rw[Rat.zero_add,←QC]at h;exact T8 (.cons (.agg (.cons (.same _) (.cons .fK (.cons (.same _) (.cons .fK .nil))))) (.cons (.same _) .nil)) h
theorem UH(s t:ax)(v:s.2.length≤6)(w:t.2.length≤6)(i:d6 (.agg (dc s.2)) (.agg (dc s.2))=some true)(k:d6 (.agg (dc t.2)) (.agg (dc t.2))=some true)(j:d6 (.agg (dc t.2)) (.agg (dc s.2))=some false)
 (ad:a_ 1000 s.1) (ae:a_ 1000 t.1) (m be:Nat) (f:Cap) (F:Fr) (H:af) (R:X→Fr→af→Prop) (r:GT H) (c:H.get m=.ck (.map [])) (h:H.get be=.cells (bI s++bI t) 0) (hm:m<H.next) (L:5≤m) (ar:be<H.next)
 (q:rd 3 F=.map m) (o:rd 18 F=.slice be 0 2 f) (g:rd 19 F=ah 2) (p:rd 20 F=ah 0)
 (G:∀n b,(∀t,t<18→t≠7→rd t n=rd t F)→b.get m=.ck (.map [oG s,oG t])→(∀y,y<H.next→y≠m→b.get y=H.get y)→b.next=H.next+2→R (.exit 2) n b):
 bx (.loop (pc 225 3)) R F H:=by
 unfold d6 at i k j;have d:=lQ v;have l:=lQ w;have C:=zU v;have D:=zU w;have N:dJ none 10 [.slice be 0 2 f,ah 0]=some (.val (.ptr be 0)):=b3 ag;have O:dJ none 10 [.slice be 0 2 f,ah 1]=some (.val (.ptr be 10)):=b3 ag;have z:=Ca (ys:=bI t) d;rw[c_]at z;have V:=zE d l;have P:bg (.agg (bI s))=true:=rfl;have Q:cellsOf (.agg (bI s))=bI s:=rfl;have bA:bg (.agg (bI t))=true:=rfl;have S:cellsOf (.agg (bI t))=bI t:=rfl;have T:cr (bI s)=10:=by rw[gO,d]
 have U:cr (bI t)=10:=by rw[gO,l]
 have fP:cC (bI s) rZ 0=some (bI s):=vK d;have mI:cC (bI t) rZ 0=some (bI t):=vK l;unfold rZ at fP mI;have nW:cq (bI s) 6=some (dc s.2):=by have:=Ca (ys:=b9 s.1) C;rwa[c_]at this
 have x:cq (bI t) 6=some (dc t.2):=by have:=Ca (ys:=b9 t.1) D;rwa[c_]at this
 have qD:cq (eC (bI s) 6) 4=some (b9 s.1):=zE C rfl;have xG:cq (eC (bI t) 6) 4=some (b9 t.1):=zE D rfl;have al:aC .i64 ((0:Int)+1)=1:=rfl;have am:aC .i64 ((1:Int)+1)=2:=rfl;have E:decide ((0:Int)<2)=true:=rfl;have d12:decide ((1:Int)<2)=true:=rfl;have d22:decide ((2:Int)<2)=false:=rfl;have A:¬H.next=m:=aa
 have W:¬H.next=be:=aa
 have a2:¬H.next+1=be:=aa
 have B:¬H.next+1=m:=aa
 have a3:¬H.next=H.next+1:=aa
 have Y:¬m=be:=fun e=>by rw[e,h]at c;cases c
 have a4:¬m=H.next:=aa
 have a5:¬m=H.next+1:=aa
 refine qX 3 ?_;rw[kz];obtain⟨K,a⟩:∃K,K=qa eP 5 (pc 225 3) R 2:=⟨_,rfl⟩;rw[←a];simp only[go_sem,EE,ED,LD,E,N,h,z,P,Q,T,fP,nW,q,o,g,p,sy];rw[amm (by simp only[go_sem,A,c]) i];simp only[go_sem,qD];refine(I5 s.1 ad _ ((r.push aa _).set aa _)).mono ?_;rintro _ _ ⟨rfl,rfl⟩;simp only[go_sem,nW];rw[arq (by simp only[go_sem,A,c]) i];simp only[go_sem,LC,p,al,true_and];rw[a,kz];clear a K;obtain⟨K,a⟩:∃K,K=qa eP 5 (pc 225 3) R 1:=⟨_,rfl⟩;rw[←a];have I:GT ((H.push (.cells [ah 0,ah 0,ah 0,ah 0,ah 0,ah 0,aD,.an,aD,.an] 0)).set H.next (.cells (bI s) 0)):=(r.push aa _).set aa _
 have J:=I.set L (.ck (.map [(.agg (dc s.2),.agg (b9 s.1))]));simp only[go_sem,EE,ED,LD,d12,O,W,Y,h,V,bA,S,U,mI,x,q,o,g,sy];rw[amn (k1:=.agg (dc s.2)) (v1:=.agg (b9 s.1)) (by simp only[go_sem,B]) k j];simp only[go_sem,xG];refine(I5 t.1 ae _ ((J.push (by simp only[go_sem];omega) _).set aa _)).mono ?_;rintro _ _ ⟨rfl,rfl⟩;simp only[go_sem,x,true_and];rw[ars (k1:=.agg (dc s.2)) (v1:=.agg (b9 s.1)) (by simp only[go_sem,B]) k j];simp only[go_sem,LC,am];rw[a,kz];clear a K;simp only[go_sem,EE,ED,d22,g];refine G _ _ (fun u hu h7=>?_) ?_ (fun y hy M=>?_) ?_
 ·simp(disch:=omega)only[bV]
 ·simp only[go_sem];rfl
 ·have Z:¬H.next=y:=aa
  have ab:¬H.next+1=y:=aa
  have ac:¬m=y:=fun e=>M e.symm
  simp only[go_sem,Z,ab,ac]
 ·simp only[go_sem]
theorem UK(s t:ax)(u:s.2.length≤6)(w:t.2.length≤6)(W:d6 (.agg (dc s.2)) (.agg (dc s.2))=some true)(Z:d6 (.agg (dc t.2)) (.agg (dc t.2))=some true)(Y:d6 (.agg (dc t.2)) (.agg (dc s.2))=some false)
 (ar:a_ 1000 s.1) (aw:a_ 1000 t.1) (H:af) (gL be:Nat) (c j:Cap) (Q:GT H) (O:H.get gL=.cells [.slice be 0 2 j] 0) (N:H.get be=.cells (bI s++bI t) 0) (a4:gL<H.next) (a5:be<H.next) (q:5≤H.next):
 c7 225 [.slice gL 0 1 c] H fun v a=>∃d b L,(d=[0,1]∨d=[1,0])∧v=.slice b 0 (fW s t d).length (.known 2)∧a.get b=.cells L 0∧L.length=20∧L.take ((fW s t d).length*10)=gd (fW s t d)∧H.next≤b∧b<a.next∧(∀y,y<H.next→a.get y=H.get y):=by
 have ab:dJ none 1 [.slice gL 0 1 c,ah 0]=some (.val (.ptr gL 0)):=b3 ag;have A:cT (.slice gL 0 1 c)=some (.val (ah 1)):=rfl;have B:cT (.slice be 0 2 j)=some (.val (ah 2)):=rfl;have a0:aC .i64 ((0:Int)+1)=1:=rfl;have z:decide ((0:Int)<1)=true:=rfl;have d11:decide ((1:Int)<1)=false:=rfl;have n1:¬H.next=gL:=aa
 have n2:¬H.next=be:=aa
 refine aT akr ?_;simp only[go_sem,d225,Zx,Zw,A];refine qX 2 ?_;rw[kz];obtain⟨R,o⟩:∃R:X→Fr→af→Prop,R=iT 0 (fq (bx (pc 225 15) (gk [gy.tmp 2] fun v a=>∃d b L,(d=[0,1]∨d=[1,0])∧v=.slice b 0 (fW s t d).length (.known 2)∧a.get b=.cells L 0∧L.length=20∧L.take ((fW s t d).length*10)=gd (fW s t d)∧H.next≤b∧b<a.next∧(∀y,y<H.next→a.get y=H.get y))) (gk [gy.tmp 2] fun v a=>∃d b L,(d=[0,1]∨d=[1,0])∧v=.slice b 0 (fW s t d).length (.known 2)∧a.get b=.cells L 0∧L.length=20∧L.take ((fW s t d).length*10)=gd (fW s t d)∧H.next≤b∧b<a.next∧(∀y,y<H.next→a.get y=H.get y))):=⟨_,rfl⟩
 rw[←o];obtain⟨K,l⟩:∃K,K=qa eP 5 (pc 225 7) R 1:=⟨_,rfl⟩;rw[←l];simp only[go_sem,LH,LG,Zz,z,ab,n1,O,B];refine UH s t u w W Z Y ar aw H.next be j _ _ _ (Q.push q _) ?_ ?_ ?_ q ?_ ?_ ?_ ?_ ?_ ?_
 iterate 2 simp only[go_sem,n2,N]
 ·simp only[go_sem];omega
 ·simp only[go_sem];omega
 iterate 4 simp only[go_sem]
 intro h a g k i r;have E:rd 3 h=.map H.next:=by rw[g 3 ag ag];simp only[go_sem]
 have a3:rd 12 h=.slice gL 0 1 c:=by rw[g 12 ag ag];simp only[go_sem]
 have C:rd 13 h=ah 1:=by rw[g 13 ag ag];simp only[go_sem]
 have D:rd 14 h=ah 0:=by rw[g 14 ag ag];simp only[go_sem]
 have T:∀y,y<H.next→a.get y=H.get y:=fun y m=>by
  rw[i y (by simp only[go_sem];omega) aa,af.bf,aj aa]
 have a6:a.next=H.next+3:=by rw[r];simp only[go_sem]
 clear g i r;simp only[go_sem,Zy,D,a0];rw[l,kz];clear l K;simp only[go_sem,LH,LG,C,d11,o];have S:ug [.map H.next] a=some (ah 2):=by
  show ao (a.jg H.next) (fun f=>some (V.int .i64 (.ofNat (cr f))))=_
  rw[xQ k];rfl
 have p:mL 112 [ah 0,ah 0,ah 0,ah 0,ah 0,ah 0,aD,.an,aD,.an] [ah 0,ah 2]=some (.new (rep [ah 0,ah 0,ah 0,ah 0,ah 0,ah 0,aD,.an,aD,.an] 2) (.slice 0 2)):=PM (n:=2) ag;obtain⟨e,n⟩:∃e:List V,e=rep [ah 0,ah 0,ah 0,ah 0,ah 0,ah 0,aD,.an,aD,.an] 2:=⟨_,rfl⟩;have J:e.length=20:=by rw[n,Cx];rfl
 rw[←n]at p;have x:¬a.next=H.next:=aa
 have U:z4 [.map H.next] (a.push (.cells e 0))=some (.ptr (a.next+1) 0,(a.push (.cells e 0)).push (.ck (.iter H.next 2 [1,0] aM 2))):=by
  show ao ((a.push (.cells e 0)).jg H.next) (fun f=>some (V.ptr (a.push (.cells e 0)).next 0,(a.push (.cells e 0)).push (.ck (.iter H.next (cr f) (upto (cr f)) aM (cr f)))))=_
  rw[xQ (es:=[oG s,oG t]) (by rw[af.bf,aj x,k])];rfl
 simp only[go_sem,Zv,Zu,E,S,p,U];refine UI s t u w H.next H.next (a.next+1) a.next (aE _) aa aa _ _ _ e ?_ ?_ ?_ ?_ ?_ J ?_ ?_
 iterate 2 simp only[go_sem]
 ·have m2:¬a.next+1=H.next:=aa
  simp only[go_sem,x,m2,k]
 ·simp only[go_sem]
 ·have ad:¬a.next+1=a.next:=aa
  simp only[go_sem,ad]
 ·simp only[go_sem];omega
 intro a1 H2 d L P F G I M i a7;simp only[go_sem,Zt,F];refine⟨d,a.next,L,P,rfl,G,I,M,aa,aa,fun y m=>?_⟩
 have ae:¬a.next=y:=aa
 have al:¬a.next+1=y:=aa
 rw[i y m];simp only[go_sem,ae,al];exact T y m
def AJ(b:Nat)(d:List ax)(H a:af):Prop:=∃c,a.get b=.cells c 0∧c.length=20∧c.take (d.length*10)=gd d∧(∀y,y≠b→a.get y=H.get y)∧a.next=H.next
theorem aqn(s:ax)(H:af)(b:Nat)(c:Cap)(L:List V)(f:H.get b=.cells L 0)(d:L.length=20)(e:L.take 10=gd [s]):
 c7 274 [.slice b 0 1 c,.func 275 [] []] H fun _ a=>AJ b [s] H a:=
 RU _ 1 (.inl rfl) rfl H _ ((aqm _ rfl H).mono fun _ a h=>by rw[h];exact⟨L,f,d,e,fun _ _=>rfl,rfl⟩)
theorem vk(s t:ax):gd [s,t]=bI s++bI t:=by simp[gd]
theorem aqo(s t:ax)(i:s.2.length≤6)(j:t.2.length≤6)(m:s.2.sum≤24)(st:t.2.sum≤24)(n:ord (fo s.2) (fo t.2)=1)(o:ord (fo t.2) (fo s.2)= -1)(l:List ax)(hl:l=[s,t]∨l=[t,s])(H:af)(b:Nat)(c:Cap)(L:List V)(a:H.get b=.cells L 0)(p:L.length=20)(g:L.take 20=gd l):
 c7 274 [.slice b 0 2 c,.func 275 [] []] H fun _ f=>AJ b [s,t] H f:=by
 rw[b_ aa]at g;have d:(gd [s,t]).length=20:=by rw[vk,aS,lQ i,lQ j]
 refine RU _ 2 (.inr rfl) rfl H _ ?_;rcases hl with rfl|rfl
 ·rw[g,vk]at a;refine(RT s t i j m st H b c a).mono fun _ f h=>?_
  rw[n,aj ag]at h;rw[h];exact⟨_,a,by rw[←vk];exact d,by rw[←vk];exact b_ (by rw[d];exact aE 20),fun _ _=>rfl,rfl⟩
 ·rw[g,vk]at a;refine(RT t s j i st m H b c a).mono fun _ f h=>?_
  rw[o,ak ag]at h;rw[h];refine⟨_,by rw[af.aK,ak rfl],by rw[←vk];exact d,by rw[←vk];exact b_ (by rw[d];exact aE 20),fun y k=>?_,rfl⟩;rw[af.aK,aj (fun e=>k e.symm),af.aK,aj (fun e=>k e.symm)]
inductive lM (H:af) (N n:Nat):List ax→List V→Prop
 |nil:lM H N n [] []
 |snoc {l:List ax}{cs:List V}{t:ax}{e:Nat} (h:lM H N n l cs) (he:N≤e∧e<H.next) (hl:t.2.length=n) (hg:H.get e=.cells (cv t.2) 0):lM H N n (l++[t]) (cs++[.str (bh t.1),.slice e 0 n (.known n)])
theorem lM.keep{H':af}(e:lM c a h l b)(j:c.next≤H'.next)(g:∀y b,a≤y→y<c.next→c.get y=.cells b 0→H'.get y=.cells b 0):lM H' a h l b:=by
 induction e with
 |nil=>exact .nil
 |snoc e d hl f i=>exact .snoc i ⟨d.1,aa⟩ hl (g _ _ d.1 d.2 f)
theorem lM.len(d:lM c a h l b):b.length=l.length*2:=by
 induction d with
 |nil=>rfl
 |snoc d f hl g e=>simp only[aS,e,cL,kP];omega
variable{H:af}
theorem lM.ahw(i:0<h)(e:∀y,a≤y→H.get y=.none)(d:lM c a h l b):cD c H b (jQ l):=by
 induction d with
 |nil=>exact .nil
 |snoc d f hl g j=>
  rw[Df];refine zm j (.cons (.same _) (.cons ?_ .nil));unfold b6;rw[hl];refine .row (m:=h) (cs:=cv _) ?_ i (e _ f.1) (cD.refl _);rw[fJ g,c_,iC (by rw[j0,hl])]
theorem NK:∀(l:List ax) (i:Nat),(∀t∈l,t.2.length≤6)→(gd l).drop (i*10)=gd (l.drop i)
 |[],i,_=>by simp[gd]
 |t::l,0,_=>aB
 |t::l,i+1,h=>by
  rw[List.drop_succ_cons,←NK l i fun u a=>h u (by simp[a]),gd,oe,i_,List.drop_append,lQ (h t aB),jB (by rw[lQ (h t aB)];omega),eI,Nat.add_sub_cancel_left]
theorem NL{i:Nat}{u:ax}(h:b.take (l.length*10)=gd l)(e:l[i]? =some u)(hl:∀t∈l,t.2.length≤6):cq (eC b (i*10)) 10=some (bI u):=by
 obtain⟨hi,rfl⟩:=fN.1 e;have a:=NK l i hl;rw[←h,lI hi,gd,List.drop_take]at a;have d:=lQ (hl l[i] (wI hi));have c:bI l[i]=(b.drop (i*10)).take 10:=by
  have:=congrArg (List.take 10) a;rw[List.take_take,m5 aa,sk d]at this;exact this.symm
 rw[kG,e4,←c,ak];have:=congrArg ku c;rw[dD,d]at this;omega
theorem agk{n:Nat}{cs jt:List V}{es:List Nat}(j:c.get a=.cells cs 0)(q:cs.length=n)(p:c.get h=.cells (dc es++jt) 0)(hl:es.length=n)(r:n≤6)(l:e (put m i (ah (n:Int))) (c.set a (.cells (cv es) 0))):
 gj i e m (ov 1 [.slice a 0 n (.known n),.slice h 0 6 (.known 6)] c):=by
 have o:dU 6 n=n:=by rw[Ci];omega
 have g:ov 1 [.slice a 0 n (.known n),.slice h 0 6 (.known 6)] c=some (ah (n:Int),c.set a (.cells (cv es) 0)):=by
  show ao (some 6) (fun d=>ao (dS c 1 (dU d n) (.slice h 0 6 (.known 6))) fun b=>ao (c.e5 a 0 b) fun c=>some (V.int .i64 (.ofNat (dU d n)),c))=_;show ao (dS c 1 (dU 6 n) (.slice h 0 6 (.known 6))) (fun b=>ao (c.e5 a 0 b) fun c=>some (V.int .i64 (.ofNat (dU 6 n)),c))=_;rw[o];have k:dS c 1 n (.slice h 0 6 (.known 6))=some (cv es):=by
   show c.cS h 0 (n*1)=_;rw[fJ p,c_,e4,dF,dc,eJ,ak (by rw[aS,j0];omega),sk (by rw[j0,hl])]
  rw[k];show ao (c.e5 a 0 (cv es)) _=_;unfold af.e5;rw[j];show ao (aQ (cG (cv es)) (ao (cC (cv es) cs 0) fun f=>some (c.set a (.cells f 0)))) _=_;rw[yX,vK (by rw[j0];omega)];rfl
 rw[g];exact l
def S3(n:Nat)(a:List ax)(M b T P:Nat)(c:Cap)(L:List V)(e:Fr)(f:af)(k:Nat)(F:Fr)(H:af):Prop:=∃(i:Nat) (C d:List V),k=a.length-i∧i≤a.length∧(∀t,t<7→rd t F=rd t e)∧rd 33 F=.slice b 0 a.length c∧rd 34 F=ah (a.length:Int)∧rd 35 F=ah (i:Int)∧
 H.get T=.cells C 0∧C.length=a.length*2∧C.take (i*2)=d∧lM H M n (a.take i) d∧(∀y,y<M→y≠T→H.get y=f.get y)∧M≤H.next
theorem ar9(n:Nat)(hn:0<n∧n≤6)(d:List ax)(hl:∀t∈d,t.2.length=n)(hq:∀t∈d,a_ 1000 t.1)(ls:d.length≤1000)(b T P:Nat)(c:Cap)(L:List V)(o:List V)(F:Fr)(H:af)(R:X→Fr→af→Prop)
 (f0:rd 0 F=ah (n:Int)) (f6:rd 6 F=.ptr P 0) (ad:rd 33 F=.slice b 0 d.length c) (ae:rd 34 F=ah (d.length:Int)) (al:rd 35 F=ah 0)
 (aw:H.get b=.cells L 0) (a1:L.take (d.length*10)=gd d) (ar:H.get T=.cells o 0) (a0:o.length=d.length*2) (ap:H.get P=.cells [ah (n:Int),.slice T 0 d.length (.known d.length)] 0) (hg:GT H) (hb:b<H.next) (hT:T<H.next) (hP:P<H.next) (co:5≤T) (a7:b≠T) (a3:P≠T)
 (hR:∀D g f,(∀t,t<7→rd t D=rd t F)→lM g H.next n d f→g.get T=.cells f 0→(∀y,y<H.next→y≠T→g.get y=H.get y)→H.next≤g.next→R (.exit 0) D g):
 bx (.loop (pc 202 3)) R F H:=by
 refine bH (S3 n d H.next b T P c L F H) d.length ⟨0,o,[],rfl,bQ _,fun _ _=>rfl,ad,ae,al,ar,a0,aB,.nil,fun _ _ _=>rfl,aE _⟩ ?_
 rintro k E a ⟨i,C,f,rfl,hi,m,G,p,q,Q,ci,r,v,j,bj⟩;have Y:rd 0 E=ah (n:Int):=by rw[m 0 ag];exact f0
 have Z:rd 6 E=.ptr P 0:=by rw[m 6 ag];exact f6
 have kb:a.get b=.cells L 0:=by rw[j b hb a7,aw]
 have O:=(j P hP a3).trans ap;have a9:GT a:=hg.keep fun y x=>j y aa aa
 rw[Y8];by_cases bb:i<d.length
 ·obtain⟨u,w⟩:∃u,d[i]? =some u:=⟨d[i],cn bb⟩;have M:=eT w;have K:=hl u M;have I:=lQ (t:=u) aa;have bo:=zU (e:=u.2) aa;have ea:=NL a1 w (fun t l=>by have:=hl t l;omega);have s:decide ((i:Int)<((d.length:Nat):Int))=true:=bk aa;have w1:aC .i64 ((i:Int)+1)=((i+1:Nat):Int):=by rw[aH _ aa];rfl
  have b1:dJ none 10 [.slice b 0 d.length c,ah (i:Int)]=some (.val (.ptr b (i*10))):=by
   rw[b3 aa];simp
  have b2:dJ none 2 [.slice T 0 d.length (.known d.length),ah (i:Int)]=some (.val (.ptr T (i*2))):=by
   rw[b3 aa];simp
  have k1:bg (.agg (bI u))=true:=rfl;have k2:cellsOf (.agg (bI u))=bI u:=rfl;have cb:cr (bI u)=10:=by rw[gO,I]
  have fP:cC (bI u) rZ 0=some (bI u):=vK I;unfold rZ at fP;have qD:cq (eC (bI u) 6) 4=some (b9 u.1):=zE bo rfl;have be:mL 8 [ah 0] [ah (n:Int),ah (n:Int)]=some (.new (rep [ah 0] n) (.slice n n)):=by rw[ir aa];simp
  have bv:slice3 (nB 6 1) false false false [.ptr a.next 0]=some (.val (.slice a.next 0 6 (.known 6))):=rfl
  have J:=aoF u.1 (hq u M) ag;unfold c5 at J;have n1:¬a.next=b:=aa
  have n2:¬a.next=T:=aa
  have S:¬a.next=P:=aa
  have U:¬a.next+1=a.next:=aa
  have ce:¬a.next+1=T:=aa
  have W:¬a.next+1=P:=aa
  have c1:¬a.next=a.next+1:=aa
  simp only[go_sem,Ly,Y7,Y,G,p,q,s,b1,kb,ea,k1,k2,cb,fP,be,bv,sy];refine agk (n:=n) (cs:=rep [ah 0] n) (jt:=b9 u.1) (es:=u.2) ?_ ?_ ?_ K hn.2 ?_
  ·simp only[go_sem]
  ·rw[Cx];simp
  ·simp only[go_sem,U];rfl
  simp only[go_sem,Z,S,U,W,O,qD];have a':GT ((((a.push (.cells [ah 0,ah 0,ah 0,ah 0,ah 0,ah 0,aD,.an,aD,.an] 0)).set a.next (.cells (bI u) 0)).push (.cells (rep [ah 0] n) 0)).set (a.next+1) (.cells (cv u.2) 0)):=by
   repeat' first|exact a9|omega|(simp only[go_sem];omega)|refine GT.set ?_ ?_ _|refine GT.push ?_ ?_ _
  refine bL J a' ?_;have b0:cC [.str (bh u.1),.slice (a.next+1) 0 n (.known n)] C (i*2)=some (C.take (i*2)++[.str (bh u.1),.slice (a.next+1) 0 n (.known n)]++C.drop (i*2+2)):=by
   rw[lC,ak (by rw[cL,gH];omega)];rfl
  have a5:cG [V.str (bh u.1),.slice (a.next+1) 0 n (.known n)]=true:=rfl
  simp only[go_sem,n2,S,ce,W,O,Q,b2,b0,a5,true_and];simp only[go_sem,Y6,q,w1];have t1:¬T=a.next+1:=aa
  have bc:∀y f,H.next≤y→y<a.next→a.get y=.cells f 0→(((((a.push (.cells [ah 0,ah 0,ah 0,ah 0,ah 0,ah 0,aD,.an,aD,.an] 0)).set a.next (.cells (bI u) 0)).push (.cells (rep [ah 0] n) 0)).set (a.next+1) (.cells (cv u.2) 0)).set T (.cells (C.take (i*2)++[.str (bh u.1),.slice (a.next+1) 0 n (.known n)]++C.drop (i*2+2)) 0)).get y=.cells f 0:=fun y f x cp h=>by
   have z:¬a.next=y:=aa
   have A:¬a.next+1=y:=aa
   have B:¬T=y:=aa;simp only[go_sem,z,A,B,h]
  refine⟨d.length-(i+1),aa,i+1,C.take (i*2)++[.str (bh u.1),.slice (a.next+1) 0 n (.known n)]++C.drop (i*2+2),f++[.str (bh u.1),.slice (a.next+1) 0 n (.known n)],rfl,aa,fun t l=>?_,?_,?_,?_,?_,?_,?_,?_,fun y x N=>?_,?_⟩
  ·simp(disch:=omega)only[bV];exact m t l
  iterate 4 simp only[go_sem,G,p]
  ·simp only[aS,dD,gZ,cL,kP];omega
  ·have bd:(C.take (i*2)++[V.str (bh u.1),.slice (a.next+1) 0 n (.known n)]).length=(i+1)*2:=by
    simp only[aS,dD,cL,kP];omega
   rw[←bd,p_,r]
  ·rw[CY w];refine .snoc (v.keep (by simp only[go_sem];omega) bc) ⟨aa,by simp only[go_sem];omega⟩ K ?_;simp only[go_sem,t1]
  ·have z:¬a.next=y:=aa
   have A:¬a.next+1=y:=aa
   have B:¬T=y:=fun e=>N e.symm
   simp only[go_sem,z,A,B];exact j y x N
  ·simp only[go_sem];omega
 ·have ba:i=d.length:=aa;subst ba;have s:decide (((d.length:Nat):Int)<((d.length:Nat):Int))=false:=aZ aa;rw[b_ aa]at r;rw[b_ (aE _)]at v;subst r;simp only[go_sem,Ly,p,q,s];exact hR _ _ C (fun t l=>by simp(disch:=omega)only[bV];exact m t l) v Q j bj
theorem ar'(n:Nat)(X:0<n∧n≤6)(d:List ax)(hl:∀t∈d,t.2.length=n)(hs:∀t∈d,t.2.sum≤24)(hq:∀t∈d,a_ 1000 t.1)(C:0<d.length∧d.length≤1000)(H:af)(b:Nat)(c:Cap)(L:List V)(S:GT H)(P:H.get b=.cells L 0)(a':b<H.next)(a9:5≤b)
 (ae:∀i,i.get b=.cells L 0→c7 274 [.slice b 0 d.length c,.func 275 [] []] i fun _ a=>AJ b d i a):
 c7 202 [ah (n:Int),.slice b 0 d.length c] H fun v a=>∃T M f,v=.az [.agg [ah (n:Int),.slice T 0 d.length (.known d.length)],ah 0]∧lM a M n d f∧a.get T=.cells f 0∧H.next≤T∧H.next≤M∧(∀y,y<H.next→y≠b→a.get y=H.get y)∧H.next≤a.next∧T<a.next:=by
 obtain⟨u,z⟩:∃u,d[0]? =some u:=⟨d[0],cn C.1⟩;have A:=eT z;have ba:=hl u A;have ap:=hs u A;have g:cT (.slice b 0 d.length c)=some (.val (ah (d.length:Int))):=rfl;have G:decide ((d.length:Int)>4096)=false:=aZ aa;have I:decide ((d.length:Int)>0)=true:=bk aa;have ar:dJ none 10 [.slice b 0 d.length c,ah 0]=some (.val (.ptr b 0)):=b3 aa;have ad:slice3 (nB 6 1) false false false [.ptr b 0]=some (.val (.slice b 0 6 (.known 6))):=rfl;have Q:¬H.next=b:=aa
 refine aT akn ?_;simp only[go_sem,d202,Zd,Zc,g,G];refine(ae _ (by simp only[go_sem,Q,P])).mono ?_;rintro v0 a ⟨F,B,k2,bA,m,aw⟩;have U:GT a:=(S.push aa (.cells [ah 0,.an] 0)).keep fun y e=>m y aa
 have a1:a.get H.next=.cells [ah 0,.an] 0:=by rw[m _ aa];simp only[go_sem]
 have a0:∀y,y<H.next→y≠b→a.get y=H.get y:=fun y e l=>by rw[m y l,af.bf,aj aa]
 have bd:a.next=H.next+1:=by rw[aw];simp only[go_sem]
 simp only[go_sem,Zb,Za,g,I,ar,ad];have R:bR a (af.zero a.next) (.slice b 0 6 (.known 6)) (b6 (fo u.2)):=by
  have j:=NL (i:=0) bA z (fun t ht=>by have:=hl t ht;omega);have Z:(cv (fo u.2)).length=6:=by rw[j0,uu aa]
  unfold b6;rw[uu aa];refine .row (m:=6) (cs:=cv (fo u.2)) ?_ ag (af.e7 _ _) (cD.refl _);rw[fJ B,c_];rw[jb,c_,e4]at j;rw[e4,ak aa];rw[ak aa]at j;have q:=congrArg (fun x=>x.map (List.take 6)) j;simp only[Option.map_some,List.take_take,Nat.reduceLeDiff,m5]at q;rw[q,bI,G6,sk Z]
 refine(w7 (R:=fun v=>v=bO) (.cons R .nil) ((GF (fo u.2) (by rw[uu aa];omega) (by rw[G5];exact ap) _).mono ?_)).mono ?_
 ·rintro _ _ ⟨rfl,rfl⟩;exact⟨_,fun b=>.bool _,rfl⟩
 rintro _ E ⟨rfl,r⟩;rw[r];clear r E;have W:mL 40 [.str [],.an] [ah (d.length:Int),ah (d.length:Int)]=some (.new (rep [.str [],.an] d.length) (.slice d.length d.length)):=by rw[ir aa];simp
 simp only[go_sem,g,gG,W];have w:5≤a.next:=aa
 simp only[go_sem,Y_,g];have n1:¬a.next=b:=aa
 have n2:¬a.next+1=b:=aa
 have a4:¬a.next+1=a.next:=aa
 have a5:¬a.next=H.next:=aa
 have D:¬a.next+1=H.next:=aa
 refine ar9 n X d hl hq C.2 b a.next (a.next+1) c F (rep [.str [],.an] d.length) _ _ _ ?_ ?_ ?_ ?_ ?_ ?_ bA ?_ ?_ ?_ ?_ ?_ ?_ ?_ w aa aa ?_
 iterate 7 simp only[go_sem,n1,n2,B,a4]
 ·rw[Cx];rfl
 ·simp only[go_sem]
 ·exact((U.push w _).push (by simp only[go_sem];omega) _).set aa _
 ·simp only[go_sem];omega
 ·simp only[go_sem];omega
 ·simp only[go_sem];omega
 intro o p f s am hT k Y;simp only[go_sem]at Y;have J:rd 4 o=.ptr H.next 0:=by rw[s 4 ag];simp only[go_sem]
 have K:rd 6 o=.ptr (a.next+1) 0:=by rw[s 6 ag];simp only[go_sem]
 have N:p.get (a.next+1)=.cells [ah (n:Int),.slice a.next 0 d.length (.known d.length)] 0:=by
  rw[k _ (by simp only[go_sem];omega) aa];simp only[go_sem]
 have O:p.get H.next=.cells [ah 0,.an] 0:=by
  rw[k _ (by simp only[go_sem];omega) aa];simp only[go_sem,a5,D,a1]
 have m1:¬a.next+1=H.next:=D
 simp only[go_sem,Y9,J,K,N,O];refine⟨a.next,_,f,rfl,am.keep (aE _) fun y a8 e bb h=>?_,?_,aa,?_,fun y e l=>?_,?_⟩
 ·rw[af.aK,aj (by simp only[go_sem]at e;omega)];exact h
 ·rw[aj aa];exact hT
 ·simp only[go_sem];omega
 ·have q1:¬a.next=y:=aa
  have a7:¬a.next+1=y:=aa
  rw[aj aa,k y (by simp only[go_sem];omega) aa];simp only[go_sem,q1,a7];exact a0 y e l
 ·constructor<;>omega
def n_:List V:=[ah 0,ah 0,ah 0,ah 0,ah 0,ah 0]
theorem an3(h:d.length≤6):cv d++n_.drop d.length=dc d:=by
 unfold dc;rw[show n_=aX 6 (V.int .i64 0)from rfl,List.drop_replicate]
variable{u:Nat}{L:Nat}
theorem agl{X Y:List V}{es:List Nat}(j:c.get a=.cells (X++(n_++Y)) 0)(b:X.length=h)(k:c.get u=.cells (cv es) 0)(hl:es.length=L)(p:L≤6)
 (n:e (put m i (ah (L:Int))) (c.set a (.cells (X++(dc es++Y)) 0))):gj i e m (ov 1 [.slice a h 6 (.known 6),.slice u 0 L (.known L)] c):=by
 have o:dU L 6=L:=kZ p;have q:cC (cv es) (X++(n_++Y)) h=some (X++(dc es++Y)):=by
  have d:n_.length=6:=rfl;rw[lC,ak (by simp only[aS,j0,d];omega),sk b,←an3 aa];congr 1;rw[eJ,eJ];congr 2;rw[←b,←List.drop_drop,uS,List.drop_append_of_le_length (by rw[d,j0];omega),j0]
 have g:ov 1 [.slice a h 6 (.known 6),.slice u 0 L (.known L)] c=some (ah (L:Int),c.set a (.cells (X++(dc es++Y)) 0)):=by
  show ao (dS c 1 (dU L 6) (.slice u 0 L (.known L))) (fun r=>ao (c.e5 a h r) fun c=>some (V.int .i64 (.ofNat (dU L 6)),c))=_;rw[o];have l:dS c 1 L (.slice u 0 L (.known L))=some (cv es):=by
   show c.cS u 0 (L*1)=_;rw[fJ k,c_,dF,iC (by rw[j0,hl])]
  rw[l];show ao (c.e5 a h (cv es)) _=_;unfold af.e5;rw[j];show ao (aQ (cG (cv es)) (ao (cC (cv es) (X++(n_++Y)) h) fun f=>some (c.set a (.cells f 0)))) _=_;rw[yX,q];rfl
 rw[g];exact n
theorem am6(a:List Nat)(n:Nat)(h:0<n∧n≤6)(hl:a.length=n)(i:a.sum≤24)(H:af)(e:Nat)(c:Cap)(f:H.get e=.cells (cv a) 0):c7 224 [.slice e 0 n c] H fun v d=>v=bO∧d=H:=by
 have g:bR H (af.zero H.next) (.slice e 0 n c) (b6 a):=by
  unfold b6;rw[hl];refine .row (m:=n) (cs:=cv a) ?_ h.1 (af.e7 _ _) (cD.refl _);rw[fJ f,c_,iC (by rw[j0,hl])]
 refine w7 (R:=fun v=>v=bO) (.cons g .nil) ((GF a aa i _).mono ?_);rintro _ _ ⟨rfl,rfl⟩;exact⟨_,fun b=>.bool _,rfl⟩
theorem PJ(n i:Nat)(s:0<n∧n≤6)(hi:i<2)(x:List UInt8)(q:Rat)(Y:numOf x=some q)(Z:x.length≤500)(a:List Nat)(hl:a.length=n)(S:a.sum≤24)(T be e:Nat)(c:Cap)(j A B:List V)(M:cq (eC j (i*2)) 2=some [.str x,.slice e 0 n (.known n)])(F:Fr)(H:af)(R:X→Fr→af→Prop)
 (G:rd 0 F=ah (n:Int)) (I:rd 6 F=.slice be 0 2 (.known 2)) (k:rd 21 F=.slice T 0 2 c) (l:rd 22 F=ah 2) (m:rd 23 F=ah (i:Int))
 (J:H.get T=.cells j 0) (o:H.get e=.cells (cv a) 0) (K:H.get be=.cells (A++(n_++([aD,.an,aD,.an]++B))) 0) (f:A.length=i*10) (O:GT H) (hT:T<H.next) (he:e<H.next) (hb:be<H.next) (a4:5≤be) (Q:e≠be)
 (L:∀b d,(∀t,t<7→rd t b=rd t F)→rd 21 b=.slice T 0 2 c→rd 22 b=ah 2→rd 23 b=ah ((i+1:Nat):Int)→d.get be=.cells (A++(bI (q,a)++B)) 0→(∀y,y<H.next→y≠be→d.get y=H.get y)→H.next≤d.next→R .norm b d):
 bx (pc 154 3) R F H:=by
 have N:decide ((i:Int)<2)=true:=bk aa;have w1:aC .i64 ((i:Int)+1)=((i+1:Nat):Int):=by rw[aH _ aa];rfl
 have ac:dJ none 2 [.slice T 0 2 c,ah (i:Int)]=some (.val (.ptr T (i*2))):=by rw[b3 aa];simp
 have ad:dJ none 10 [.slice be 0 2 (.known 2),ah (i:Int)]=some (.val (.ptr be (i*10))):=by rw[b3 aa];simp
 have n1:¬H.next=T:=aa
 have g:=Hu x Z;rw[Ck Y]at g;unfold c5 at g;simp only[go_sem,K6,K5,Xo,k,l,m,N,ac,J,M];refine bL g ((O.push aa _).set aa _) ?_;have u:bg (.agg (b9 q))=true:=rfl;have v:cellsOf (.agg (b9 q))=b9 q:=rfl;have fP:cr (b9 q)=4:=rfl;have mI:cC (b9 q) [aD,.an,aD,.an] 0=some (b9 q):=rfl;have nW:cG (b9 q)=true:=rfl;have ae:cq (b9 q) 4=some (b9 q):=rfl;have P:cT (.slice e 0 n (.known n))=some (.val (ah (n:Int))):=rfl;have w:¬H.next=e:=aa
 have al:¬H.next=be:=aa
 have am:¬H.next+1=be:=aa
 have z:¬H.next+1=e:=aa
 have ap:¬be=e:=fun h=>Q h.symm
 have C:¬H.next+1=H.next:=aa
 have ar:¬be=H.next:=aa
 simp only[go_sem,u,v,fP,mI,nW,P,G,C,gG,decide_true];refine(am6 a n s hl S _ e (.known n) (by simp only[go_sem,w,z,o])).mono ?_;rintro _ D ⟨rfl,p⟩;rw[p];clear p D;have U:slice3 (nB 6 1) false false false [.ptr be (i*10)]=some (.val (.slice be (i*10) 6 (.known 6))):=rfl;have W:cC (b9 q) (A++(n_++([aD,.an,aD,.an]++B))) (i*10+6)=some (A++(n_++(b9 q++B))):=by
  have E:A++(n_++([V.bool false,.an,aD,.an]++B))=(A++n_)++([aD,.an,aD,.an]++B):=aB;have r:(A++n_).length=i*10+6:=by rw[aS,f];rfl
  rw[E,lC,ak (by simp only[aS,f];show i*10+6+4≤i*10+6+(4+B.length);omega),sk r];congr 1;rw[show i*10+6+(b9 q).length=(A++n_).length+4 from by rw[r];rfl,←List.drop_drop,uS];simp
 simp only[go_sem,gG,I,ad,U,u,v,fP,nW,ae,W,al,am,C,ar,K];refine agl (X:=A) (Y:=b9 q++B) (es:=a) ?_ f ?_ hl s.2 ?_
 iterate 2 simp only[go_sem,w,z,ap,o]
 have a9:¬H.next=H.next+1:=aa
 simp only[go_sem,Xn,m,w1];refine L _ _ (fun t ht=>?_) ?_ ?_ ?_ ?_ (fun y hy ab=>?_) ?_
 ·simp(disch:=omega)only[bV]
 iterate 4 simp only[go_sem,k,l,bI,eJ]
 ·have q1:¬H.next=y:=aa
  have a0:¬H.next+1=y:=aa
  have a1:¬be=y:=fun h=>ab h.symm
  simp only[go_sem,q1,a0,a1]
 ·simp only[go_sem];omega
theorem amL(n:Nat)(Q:0<n∧n≤6)(u w:List UInt8)(f i:Rat)(dp:numOf u=some f)(dq:numOf w=some i)(d5:u.length≤500)(d7:w.length≤500)(c':f.num≠0)(Z:a_ 1000 f)(b2:a_ 1000 i)(a e:List Nat)(l1:a.length=n)(l2:e.length=n)(W:a.sum≤24)(Y:e.sum≤24)
 (dd:d6 (.agg (dc a)) (.agg (dc a))=some true) (dl:d6 (.agg (dc e)) (.agg (dc e))=some true) (dk:d6 (.agg (dc e)) (.agg (dc a))=some false) (d3:ord (fo a) (fo e)=1) (d4:ord (fo e) (fo a)= -1)
 (H:af) (T o l:Nat) (c:Cap) (N:GT H) (am:H.get T=.cells [.str u,.slice o 0 n (.known n),.str w,.slice l 0 n (.known n)] 0) (ca:H.get o=.cells (cv a) 0) (cb:H.get l=.cells (cv e) 0) (ea:T<H.next) (ed:o<H.next) (eh:l<H.next) (c1:5≤H.next)
 (j:List ax) (s:j=(f,a)::hY (i,e)):
 c7 154 [ah (n:Int),.slice T 0 2 c] H fun v g=>∃k M m,v=.az [.agg [ah (n:Int),.slice k 0 j.length (.known j.length)],ah 0]∧lM g M n j m∧g.get k=.cells m 0∧H.next≤k∧H.next≤M∧(∀y,y<H.next→g.get y=H.get y)∧H.next≤g.next∧k<g.next:=by
 have a5:hY (f,a)=[(f,a)]:=aj c';have S:hY (i,e)=[]∨hY (i,e)=[(i,e)]:=by unfold hY;split<;>simp
 have da:0<j.length∧j.length≤1000:=by rw[s];rcases S with h|h<;>rw[h]<;>simp
 have P:∀t∈j,t=(f,a)∨t=(i,e):=by
  intro t r;rw[s]at r;rcases g7.1 r with h|h
  ·exact .inl h
  ·rcases S with h2|h2
   ·rw[h2]at h;cases h
   ·rw[h2]at h;exact .inr (dj.1 h)
 have bo:cT (.slice T 0 2 c)=some (.val (ah 2)):=rfl;have d1:decide ((n:Int)<0)=false:=aZ aa;have d2:decide ((n:Int)>6)=false:=aZ aa;have ci:((1+1:Nat):Int)=2:=rfl;have d22:decide ((2:Int)<2)=false:=rfl;have c0:mL 112 [ah 0,ah 0,ah 0,ah 0,ah 0,ah 0,aD,.an,aD,.an] [ah 2,ah 2]=some (.new (n_++([aD,.an,aD,.an]++rZ)) (.slice 2 2)):=rfl;refine aT ajX ?_;simp only[go_sem,d154,Xs,Xr,Xq,bo,d1,d2,c0];obtain⟨R,hR⟩:∃R:X→Fr→af→Prop,R=iT 0 (fq (bx (pc 154 4) (gk [gy.cell 4 true 2,gy.tmp 5] fun v g=>∃k M m,v=.az [.agg [ah (n:Int),.slice k 0 j.length (.known j.length)],ah 0]∧lM g M n j m∧g.get k=.cells m 0∧H.next≤k∧H.next≤M∧(∀y,y<H.next→g.get y=H.get y)∧H.next≤g.next∧k<g.next)) (gk [gy.cell 4 true 2,gy.tmp 5] fun v g=>∃k M m,v=.az [.agg [ah (n:Int),.slice k 0 j.length (.known j.length)],ah 0]∧lM g M n j m∧g.get k=.cells m 0∧H.next≤k∧H.next≤M∧(∀y,y<H.next→g.get y=H.get y)∧H.next≤g.next∧k<g.next)):=⟨_,rfl⟩
 rw[←hR];have n1:¬H.next=T:=aa
 have n2:¬H.next+1=T:=aa
 have dv:¬H.next=o:=aa
 have dC:¬H.next+1=o:=aa
 have dE:¬H.next=l:=aa
 have dT:¬H.next+1=l:=aa
 have d0:¬H.next+1=H.next:=aa
 refine qX 3 ?_;rw[kz];refine PJ n 0 Q ag u f dp d5 a l1 W T (H.next+1) o c [.str u,.slice o 0 n (.known n),.str w,.slice l 0 n (.known n)] [] rZ rfl _ _ _ ?_ ?_ ?_ ?_ ?_ ?_ ?_ ?_ rfl ?_ ?_ ?_ ?_ aa aa ?_
 iterate 4 simp only[go_sem]
 ·simp only[go_sem];rfl
 iterate 2 simp only[go_sem,n1,n2,am,dv,dC,ca]
 ·simp only[go_sem];rfl
 ·exact(N.push c1 _).push (by simp only[go_sem];omega) _
 ·simp only[go_sem];omega
 ·simp only[go_sem];omega
 ·simp only[go_sem];omega
 intro B g D ad ae al ap A c2;simp only[go_sem]at c2;have I:rd 0 B=ah (n:Int):=by rw[D 0 ag];simp only[go_sem]
 have J:rd 6 B=.slice (H.next+1) 0 2 (.known 2):=by rw[D 6 ag];simp only[go_sem]
 have ac:rd 4 B=.ptr H.next 0:=by rw[D 4 ag];simp only[go_sem]
 have a6:g.get T=.cells [.str u,.slice o 0 n (.known n),.str w,.slice l 0 n (.known n)] 0:=by rw[A T (by simp only[go_sem];omega) aa];simp only[go_sem,n1,n2,am]
 have a7:g.get l=.cells (cv e) 0:=by rw[A l (by simp only[go_sem];omega) aa];simp only[go_sem,dE,dT,cb]
 have a9:g.get H.next=.cells [ah 0,.an] 0:=by rw[A _ (by simp only[go_sem];omega) aa];simp only[go_sem,d0]
 have U:∀y,y<H.next→g.get y=H.get y:=fun y p=>by
  rw[A y (by simp only[go_sem];omega) aa];have f:¬H.next=y:=aa
  have i:¬H.next+1=y:=aa
  simp only[go_sem,f,i]
 have a2:GT g:=N.keep fun y p=>U y aa
 clear A D;show qa eP 5 (pc 154 3) R 2 B g;rw[kz];refine PJ n 1 Q ag w i dq d7 e l2 Y T (H.next+1) l c [.str u,.slice o 0 n (.known n),.str w,.slice l 0 n (.known n)] (bI (f,a)) [] rfl _ _ _ I J ad ae al a6 a7 ?_ (lQ (t:=(f,a)) (by show a.length≤6;omega)) a2 aa aa aa aa aa ?_
 ·rw[ap];rfl
 intro C q E auU ahy b1 ar O el;have bs:rd 0 C=ah (n:Int):=by rw[E 0 ag];exact I
 have b0:rd 6 C=.slice (H.next+1) 0 2 (.known 2):=by rw[E 6 ag];exact J
 have bv:rd 4 C=.ptr H.next 0:=by rw[E 4 ag];exact ac
 have ds:q.get H.next=.cells [ah 0,.an] 0:=by rw[O _ aa aa];exact a9
 have a8:∀y,y<H.next→q.get y=H.get y:=fun y p=>by rw[O y aa aa];exact U y p
 have a3:GT q:=N.keep fun y p=>a8 y aa
 rw[fG]at ar;clear O E I J ac a6 a7 a9 U a2 ad ae al ap;show qa eP 5 (pc 154 3) R 1 C q;rw[kz];simp only[go_sem,K6,K5,ahy,b1,ci,d22,hR];have m1:¬q.next=H.next+1:=aa
 have xP:((f,a):ax).2.length≤6:=by show a.length≤6;omega
 have bb:((i,e):ax).2.length≤6:=by show e.length≤6;omega
 simp only[go_sem,Xp,bs,b0];refine(UK (f,a) (i,e) xP bb dd dl dk Z b2 _ q.next (H.next+1) (.known 1) (.known 2) (a3.push aa _) ?_ ?_ ?_ ?_ ?_).mono ?_
 iterate 2 simp only[go_sem,m1,ar]
 ·simp only[go_sem];omega
 ·simp only[go_sem];omega
 ·simp only[go_sem];omega
 rintro _ G ⟨d,b,L,hd,rfl,b',aw,F,ce,cf,cs⟩;simp only[go_sem]at ce;have z:fW (f,a) (i,e) d=(f,a)::hY (i,e)∨fW (f,a) (i,e) d=hY (i,e)++[(f,a)]:=by
  rcases hd with rfl|rfl
  ·left;show hY (f,a)++(hY (i,e)++[])=_;rw[a5,fG];rfl
  ·right;show hY (i,e)++(hY (f,a)++[])=_;rw[a5];rfl
 have cp:(fW (f,a) (i,e) d).length=j.length:=by
  rw[s];rcases z with h|h<;>rw[h]<;>simp[i_]
 have V:∀y,y<H.next+1→G.get y=q.get y:=fun y p=>by
  rw[cs y (by simp only[go_sem];omega)];have f:¬q.next=y:=aa
  simp only[go_sem,f]
 have co:GT G:=a3.keep fun y p=>V y aa
 have db:∀x,x.get b=.cells L 0→c7 274 [.slice b 0 j.length (.known 2),.func 275 [] []] x fun _ g=>AJ b j x g:=by
  intro x a1;rcases S with h2|h2
  ·rw[h2]at z s;have K:fW (f,a) (i,e) d=[(f,a)]:=by rcases z with h|h<;>exact h
   rw[K]at F;rw[s];exact aqn (f,a) x b (.known 2) L a1 aw F
  ·rw[h2]at z s;have K:(fW (f,a) (i,e) d).length=2:=by rcases z with h|h<;>rw[h]<;>rfl
   rw[K]at F;rw[s];exact aqo (f,a) (i,e) xP bb W Y d3 d4 _ z x b (.known 2) L a1 aw F
 rw[cp];simp only[go_sem];refine(ar' n Q j (fun t r=>?_) (fun t r=>?_) (fun t r=>?_) da G b (.known 2) L co b' cf aa db).mono ?_
 ·rcases P t r with rfl|rfl
  ·exact l1
  ·exact l2
 ·rcases P t r with rfl|rfl
  ·exact W
  ·exact Y
 ·rcases P t r with rfl|rfl
  ·exact Z
  ·exact b2
 rintro _ H4 ⟨k,M,m,rfl,df,cd,d',d9,a4,em,eb⟩;have dt:H4.get H.next=.cells [ah 0,.an] 0:=by rw[a4 _ aa aa,V _ aa,ds]
 simp only[go_sem,bv,dt];refine⟨k,M,m,rfl,df.keep (aE _) fun y d8 p eq h=>?_,?_,aa,aa,fun y p=>?_,aa,aa⟩
 ·rw[af.aK,aj aa];exact h
 ·rw[aj aa];exact cd
 ·rw[aj aa,a4 y aa aa,V y aa,a8 y p]
def U(n i:Nat):List Nat:=(aX n 0).set i 1
def Z(n:Nat):List Nat:=aX n 0
def jO(n i:Nat)(a b:Rat):List ax:=(a,U n i)::hY (b,Z n)
structure AK (n i:Nat):Prop where
 hn:0<n∧n≤2
 hi:i<n
 l1:(U n i).length=n
 l2:(Z n).length=n
 s1:(U n i).sum≤24
 s2:(Z n).sum≤24
 aiA:d6 (.agg (dc (U n i))) (.agg (dc (U n i)))=some true
 aiF:d6 (.agg (dc (Z n))) (.agg (dc (Z n)))=some true
 hts:d6 (.agg (dc (Z n))) (.agg (dc (U n i)))=some false
 anN:ord (fo (U n i)) (fo (Z n))=1
 anO:ord (fo (Z n)) (fo (U n i))= -1
 F9:rep [V.int .i64 0] n=cv (Z n)
 st:cC [V.int .i64 1] (cv (Z n)) i=some (cv (U n i))
theorem yB(n i:Nat)(a:n=1∨n=2)(hi:i<n):AK n i:=by
 have h:(n=1∧i=0)∨(n=2∧i=0)∨(n=2∧i=1):=aa;rcases h with⟨rfl,rfl⟩|⟨rfl,rfl⟩|⟨rfl,rfl⟩<;>exact⟨ag,ag,rfl,rfl,ag,ag,rfl,rfl,rfl,ag,ag,rfl,rfl⟩
theorem ahs{e:Cap}(i:0<h)(hl:0<l.length)(d:lM c a h l b)(hT:c.get u=.cells b 0)(g:H.get u=.none)(f:∀y,a≤y→H.get y=.none):bR c H (.slice u 0 l.length e) (eN l):=by
 refine .row (m:=l.length*2) (cs:=b) ?_ aa g (d.ahw i f);rw[fJ hT,c_,iC d.len]
theorem RJ(n i:Nat)(G:n=1∨n=2)(hi:i<n)(a s:List UInt8)(c d:Rat)(B:numOf a=some c)(H:numOf s=some d)(N:a.length≤500)(O:s.length≤500)(C:c.num≠0)(u:a_ 1000 c)(bs:a_ 1000 d):
 c4 99 [ah (n:Int),ah (i:Int),.str a,.str s] (gX n (jO n i c d)):=by
 have b:=yB n i G hi;have p:=b.hn;have A:=b.F9;have I:=b.st;have F:mL 8 [ah 0] [ah (n:Int),ah (n:Int)]=some (.new (cv (Z n)) (.slice n n)):=by rw[ir aa,←A];simp
 have K:dJ none 1 [.slice 6 0 n (.known n),ah (i:Int)]=some (.val (.ptr 6 i)):=by rw[b3 aa];simp
 have D:bz (gX n (jO n i c d)):=zl n _;refine dm (.cons (.int _ _) (.cons (.int _ _) (.cons (.str _) (.cons (.str _) .nil)))) (aT alN ?_);simp only[go_sem,d99,afH,afG,afF,F,K,I];have k:GT (((((cZ.push (.cells [ah 0,.an] 0)).push (.cells (cv (Z n)) 0)).set 6 (.cells (cv (U n i)) 0)).push (.cells (cv (Z n)) 0)).push (.cells [.str a,.slice 6 0 n (.known n),.str s,.slice 7 0 n (.known n)] 0)):=e8;obtain⟨e,g⟩:∃e,e=((((cZ.push (.cells [ah 0,.an] 0)).push (.cells (cv (Z n)) 0)).set 6 (.cells (cv (U n i)) 0)).push (.cells (cv (Z n)) 0)).push (.cells [.str a,.slice 6 0 n (.known n),.str s,.slice 7 0 n (.known n)] 0):=⟨_,rfl⟩;have v:e.get 5=.cells [ah 0,.an] 0:=by rw[g];simp only[go_sem]
 have w:e.get 6=.cells (cv (U n i)) 0:=by rw[g];simp only[go_sem]
 have br:e.get 7=.cells (cv (Z n)) 0:=by rw[g];simp only[go_sem]
 have eR:e.get 8=.cells [.str a,.slice 6 0 n (.known n),.str s,.slice 7 0 n (.known n)] 0:=by rw[g];simp only[go_sem]
 have V:e.next=9:=by rw[g];simp only[go_sem]
 rw[←g]at k⊢;clear g;refine(amL n ⟨p.1,aa⟩ a s c d B H N O C u bs (U n i) (Z n) b.l1 b.l2 b.s1 b.s2 b.aiA b.aiF b.hts b.anN b.anO e 8 6 7 (.known 2) k eR w br aa aa aa aa (jO n i c d) rfl).mono ?_;rintro _ f ⟨j,M,Q,rfl,J,x,T,S,o,W,z⟩;have L:f.get 5=.cells [ah 0,.an] 0:=by rw[o 5 aa,v]
 have E:GT f:=k.keep fun y l=>o y aa
 have P:¬f.next=5:=aa
 simp only[go_sem,afE,P,L];have m:∀y,6≤y→y<f.next→(((f.push (.cells [ah 0,.an] 0)).set f.next (.cells [ah (n:Int),.slice j 0 (jO n i c d).length (.known (jO n i c d).length)] 0)).set 5 (.cells [ah (n:Int),.slice j 0 (jO n i c d).length (.known (jO n i c d).length)] 0)).get y=f.get y:=fun y l q=>by
  have r:¬f.next=y:=aa
  have t:¬5=y:=aa;simp only[go_sem,r,t]
 refine⟨((E.push aa _).set aa _).set aa _,_,.agg (.cons (.same _) (.cons (ahs p.1 (by unfold jO;simp) (J.keep (by simp only[go_sem];omega) fun y R l q h=>(m y aa q).trans h) ((m j aa z).trans x) ?_ fun y l=>?_) .nil)),D,rfl⟩
 ·rw[af.qv,kD,aj aa,aj aa,aj aa]
 ·rw[af.qv,kD,aj aa,aj aa,aj aa]
def Rf:aP:=(.bN [ex 14 (mv (rd 12)),ex 15 (cz none 2 (rd 10) (rd 12)),ex 16 (bp true 2 (rd 15)),ex 8 (alloc [(.str []),(.str [])]),ex 7 (bS (rd 14)),bE (st 2 (rd 8) (rd 16))])
def CA:aP:=(.seq (.bN [ex 17 (fa 0 (rd 8)),ex 18 (bp false 1 (rd 17)),ex 19 (bs .neq (rd 18) (kc (.str [])))]) (.cond (rd 19) (.bN [ex 20 (mv (rd 6)),ex 21 (fa 0 (rd 3)),ex 22 (bp false 1 (rd 21)),ex 23 (dx (rd 22)),ex 24 (mv (rd 7)),ex 25 (fa 0 (rd 8)),ex 26 (bp false 1 (rd 25)),ex 27 (cm 100 [(rd 26)]),re 22 (bp false 1 (rd 21)),ex 28 (cm 99 [(rd 23),(rd 24),(kc (.str [49])),(rd 27)]),ex 29 (c8 1 [(0,2)] [(ah 0),.an] [(rd 28)]),ex 30 (ap 2 32 (rd 20) (rd 29)),ex 6 (bS (rd 30))]) .skip))
def HB:aP:=(.bN [ex 31 (fa 1 (rd 8)),ex 32 (bp false 1 (rd 31)),ex 33 (bs .neq (rd 32) (kc (.str [])))])
def HC:aP:=(.cond (rd 33) (.bN [ex 34 (mv (rd 6)),ex 35 (fa 0 (rd 3)),ex 36 (bp false 1 (rd 35)),ex 37 (dx (rd 36)),ex 38 (mv (rd 7)),ex 39 (fa 1 (rd 8)),ex 40 (bp false 1 (rd 39)),ex 41 (cm 99 [(rd 37),(rd 38),(kc (.str [45,49])),(rd 40)]),ex 42 (c8 1 [(0,2)] [(ah 0),.an] [(rd 41)]),ex 43 (ap 2 32 (rd 34) (rd 42)),ex 6 (bS (rd 43))]) .skip)
def jS(H:af):Prop:=∀y,y<5→H.get y=cZ.get y
theorem jS.gt(h:jS c):GT c:=fun y a e=>by rw[h y (Ao.cells e).1];exact e
theorem aiy:jS cZ:=fun _ _=>rfl
theorem jS.keep{H':af}(h:jS c)(b:∀y,y<5→H'.get y=c.get y):jS H':=fun y a=>(b y a).trans (h y a)
theorem jS.set(h:jS c)(b:5≤a)(o:cP):jS (c.set a o):=h.keep fun y d=>by rw[af.aK,aj aa]
theorem jS.push(h:jS c)(a:5≤c.next)(o:cP):jS (c.push o):=h.keep fun y b=>by rw[af.bf,aj aa]
theorem jS.P5(h:jS c)(d:a<5)(b f:Nat):c.get a≠ .bB b f:=by
 rw[h a d,kD];intro e;split at e
 ·cases e
 ·split at e
  ·cases e
  ·split at e<;>cases e
theorem jS.cells(d:jS c)(g:a<5)(e:c.get a=.cells b h):h=0:=by
 rw[d a g]at e;exact(Ao.cells e).2.1
def k3(x:List UInt8):Prop:=x=[]∨(numOf x=some (rv x)∧a_ 81 (rv x)∧x.length≤500)
variable{j:List UInt8}
theorem k3.num(h:k3 j)(a:j≠[]):numOf j=some (rv j)∧a_ 81 (rv j)∧j.length≤500:=h.resolve_left a
theorem Nf:dec 1=[49]:=afK.2 rfl
theorem are:bh (1:Rat)=[49]:=by
 unfold bh;rw[aj ag,show(1:Rat).num.natAbs=1 from rfl,Nf,ak (show(1:Rat).den=1 from rfl)];rfl
theorem arj:bh (-1:Rat)=[45,49]:=by
 unfold bh;rw[ak ag,show(-1:Rat).num.natAbs=1 from rfl,Nf,ak (show(-1:Rat).den=1 from rfl)];rfl
theorem Hj:a_ 1 1:=⟨ag,ag⟩
theorem Hi:a_ 1 (-1):=⟨ag,ag⟩
theorem anI:numOf [49]=some 1:=by have:=pF 1;rwa[are]at this
theorem anH:numOf [45,49]=some (-1):=by have:=pF (-1);rwa[arj]at this
def sV(n i:Nat)(x:List UInt8):List (List ax):=if x=[]then []else [jO n i 1 (-(rv x))]
def ua(n i:Nat)(x:List UInt8):List (List ax):=if x=[]then []else [jO n i (-1) (rv x)]
variable{z:Rat}
theorem Cs(h:a_ a z):a_ a (-z):=⟨by rw[Rat.neg_num,mZ];exact h.num,by rw[Rat.neg_den];exact h.den⟩
theorem apl(n:Nat)(L:n=1∨n=2)(i:Nat)(hi:i<n)(lo I:List UInt8)(J:k3 lo)(bs:List dH)(G:bs.length=n)(x:Nat)(v:V)(d:List V)(g:Nat)(F:Fr)(H:af)(R:X→Fr→af→Prop)(K:Fr→af→Prop)
 (A:rd 3 F=.ptr 6 0) (k:rd 6 F=v) (B:rd 7 F=ah (i:Int)) (l:rd 8 F=.ptr x 0) (m:H.get 6=.cells [b4 cw bs] 0) (o:H.get x=.cells [.str lo,.str I] 0) (c:aI H 2 v d g) (Y:d.length≤1000) (b:jS H) (U:8≤H.next) (W:x<H.next)
 (q:∀e a w C,(∀t,t<13→t≠6→rd t e=rd t F)→rd 6 e=w→aI a 2 w (d++fT n (sV n i lo)) C→(∀y f,y<H.next→H.get y=.cells f 0→a.get y=.cells f 0)→jS a→H.next≤a.next→K e a):
 bx CA (fq K R) F H:=by
 by_cases hl:lo=[]
 ·subst hl;simp only[go_sem,CA,l,o,decide_true,gG];refine q _ _ v g (fun t N _=>?_) ?_ ?_ (fun _ _ _ h=>h) b (aE _)
  ·simp(disch:=omega)only[bV]
  ·simp only[go_sem,k]
  ·show aI H 2 v (d++[]) g;rw[fG];exact c
 ·obtain⟨S,p,E⟩:=J.num hl;have M:=ank lo E;have r:=RJ n i L hi [49] (bh (-(rv lo))) 1 (-(rv lo)) anI (pF _) ag (by have:=C8 (q:= -(rv lo)) ((Cs p).mono ag);omega) ag (Hj.mono ag) ((Cs p).mono ag);have z:cT (b4 cw bs)=some (.val (ah (n:Int))):=by rw[←G];rfl
  have s:cG (cj n (jO n i 1 (-(rv lo))))=true:=rfl;unfold gX cj at r;unfold cj at s;simp only[go_sem,CA,A,k,B,l,m,o,aZ hl,iY,z];refine bL M b.gt ?_;simp only[go_sem,m,true_and];refine bL r b.gt ?_;simp only[go_sem];refine gW (bytes:=32) c rfl ag s ⟨aa,ag⟩ fun P Q D O Z u ab=>?_
  simp only[go_sem];refine q _ _ P D (fun t N T=>?_) ?_ ?_ (fun y f j h=>(u y j (c.ne h)).trans h) (b.keep fun y j=>u y aa (c.tT (b.P5 j))) aa
  ·simp(disch:=omega)only[bV]
  ·simp only[go_sem]
  ·rw[sV,aj hl];simpa [fT,cj]using O
def CB:aP:=.seq HB HC
theorem apm(n:Nat)(L:n=1∨n=2)(i:Nat)(hi:i<n)(lo a:List UInt8)(K:k3 a)(bs:List dH)(J:bs.length=n)(x:Nat)(v:V)(e:List V)(g:Nat)(F:Fr)(H:af)(R:X→Fr→af→Prop)
 (z:rd 3 F=.ptr 6 0) (l:rd 6 F=v) (A:rd 7 F=ah (i:Int)) (m:rd 8 F=.ptr x 0) (D:H.get 6=.cells [b4 cw bs] 0) (o:H.get x=.cells [.str lo,.str a] 0) (d:aI H 2 v e g) (U:e.length≤1000) (c:jS H) (S:8≤H.next) (T:x<H.next)
 (p:∀f b u B,(∀t,t<13→t≠6→rd t f=rd t F)→rd 6 f=u→aI b 2 u (e++fT n (ua n i a)) B→(∀y j,y<H.next→H.get y=.cells j 0→b.get y=.cells j 0)→jS b→H.next≤b.next→R .norm f b):
 bx CB R F H:=by
 by_cases hl:a=[]
 ·subst hl;simp only[go_sem,CB,HB,HC,m,o,decide_true,gG];refine p _ _ v g (fun t M _=>?_) ?_ ?_ (fun _ _ _ h=>h) c (aE _)
  ·simp(disch:=omega)only[bV]
  ·simp only[go_sem,l]
  ·show aI H 2 v (e++[]) g;rw[fG];exact d
 ·obtain⟨E,G,I⟩:=K.num hl;have q:=RJ n i L hi [45,49] a (-1) (rv a) anH E ag I ag (Hi.mono ag) (G.mono ag);have w:cT (b4 cw bs)=some (.val (ah (n:Int))):=by rw[←J];rfl
  have r:cG (cj n (jO n i (-1) (rv a)))=true:=rfl;unfold gX cj at q;unfold cj at r;simp only[go_sem,CB,HB,HC,z,l,A,m,D,o,aZ hl,iY,w];refine bL q c.gt ?_;simp only[go_sem];refine gW (bytes:=32) d rfl ag r ⟨aa,ag⟩ fun O P C N W s Y=>?_
  simp only[go_sem];refine p _ _ O C (fun t M Q=>?_) ?_ ?_ (fun y j k h=>(s y k (d.ne h)).trans h) (c.keep fun y k=>s y aa (d.tT (c.P5 k))) aa
  ·simp(disch:=omega)only[bV]
  ·simp only[go_sem]
  ·rw[ua,aj hl];simpa [fT,cj]using N
theorem T1:(pc 54 1)=(.seq (.block 1 (.seq Rf (.seq CA CB))) (pc 54 0)):=ael
def h_(n:Nat):Nat→List dH→List (List ax)
 |_,[]=>[]
 |j,s::l=>sV n j s.1++ua n j s.2++h_ n (j+1) l
theorem Rg(n:Nat)(s:dH):∀(j:Nat) (l:List dH),h_ n j (l++[s])=h_ n j l++(sV n (j+l.length) s.1++ua n (j+l.length) s.2)
 |j,[]=>by simp[h_]
 |j,a::l=>by
  simp only[eS,h_,Rg n s (j+1) l,cL,eJ];rw[(aa:j+1+l.length=j+(l.length+1))]
theorem Pv(n i:Nat)(x:List UInt8):(sV n i x).length≤1:=by unfold sV;split<;>simp
theorem aiv(n i:Nat)(x:List UInt8):(ua n i x).length≤1:=by unfold ua;split<;>simp
theorem x3(n:Nat):∀(j:Nat) (l:List dH),(h_ n j l).length≤2*l.length
 |_,[]=>aE 0
 |j,s::l=>by
  have:=x3 n (j+1) l;have:=Pv n j s.1;have:=aiv n j s.2;simp only[h_,aS,cL];omega
variable{f:Type}
theorem CZ{l:List f}{t:f}(h:l[a]? =some t):l.take (a+1)=l.take a++[t]:=by
 obtain⟨b,rfl⟩:=fN.1 h;exact kQ b
def IW(n:Nat)(bs:List dH)(a:List V)(k:Nat)(F:Fr)(H:af):Prop:=∃(i:Nat) (v:V) (g:Nat),k=n-i∧i≤n∧rd 2 F=.ptr 5 0∧rd 3 F=.ptr 6 0∧rd 4 F=.ptr 7 0∧rd 6 F=v∧rd 10 F=b4 cw bs∧rd 11 F=ah (n:Int)∧rd 12 F=ah (i:Int)∧
 H.get 5=.cells a 0∧H.get 6=.cells [b4 cw bs] 0∧H.get 7=.cells [.an,ah 0,.an,.an,.an] 0∧jS H∧8≤H.next∧aI H 2 v (fT n (h_ n 0 (bs.take i))) g
theorem apn(n:Nat)(M:n=1∨n=2)(bs:List dH)(J:bs.length=n)(a0:∀s∈bs,k3 s.1∧k3 s.2)(z:List V)(F:Fr)(H:af)(R:X→Fr→af→Prop)(k:Nat)(hI:IW n bs z k F H)
 (hR:∀e c v g,rd 2 e=.ptr 5 0→rd 4 e=.ptr 7 0→rd 6 e=v→c.get 5=.cells z 0→c.get 6=.cells [b4 cw bs] 0→c.get 7=.cells [.an,ah 0,.an,.an,.an] 0→jS c→8≤c.next→aI c 2 v (fT n (h_ n 0 bs)) g→R (.exit 0) e c):
 bx (.loop (pc 54 3)) R F H:=by
 refine bH (IW n bs z) k hI ?_;rintro m a5 a ⟨i,v,g,rfl,a8,C,q,D,E,B,o,p,G,j,br,I,ar,u⟩;rw[aem];by_cases L:i<n
 ·obtain⟨s,x⟩:∃s,bs[i]? =some s:=⟨bs[i],cn aa⟩;have a1:=a0 s (eT x);have A:=ia nE x;have r:decide ((i:Int)<(n:Int))=true:=bk aa;have w1:aC .i64 ((i:Int)+1)=((i+1:Nat):Int):=by rw[aH _ aa];rfl
  have am:=ff (f:=cw) (k:=2) (l:=bs) (i:=(i:Int)) (ik:=.i64) aa;have a2:=x3 n 0 (bs.take i);rw[dD]at a2;have a':=rY n (h_ n 0 (bs.take i));obtain⟨lo,hi⟩:=s;obtain⟨O,P⟩:=a1;simp only at O P;simp only[cw]at A;simp only[go_sem,MY,T1,Rf,B,o,p,r,am,bJ,A];have bc:¬a.next=5:=aa
  have bd:¬a.next=6:=aa
  have be:¬a.next=7:=aa
  have w:∀y,y<a.next→((a.push (.cells [.str [],.str []] 0)).set a.next (.cells [.str lo,.str hi] 0)).get y=a.get y:=fun y N=>by
   rw[af.aK,aj aa,af.bf,aj aa]
  refine apl n M i L lo hi O bs J a.next v _ g _ _ _ _ ?_ ?_ ?_ ?_ ?_ ?_ (u.low w (by simp only[go_sem];omega)) aa ((I.push aa _).set aa _) ?_ ?_ ?_
  iterate 4 simp only[go_sem,q,E]
  ·rw[w 6 aa];exact j
  ·simp only[go_sem]
  ·simp only[go_sem];omega
  ·simp only[go_sem];omega
  intro a6 S v2 Y b U ae K Z aw;simp only[go_sem]at aw;have ll:=Pv n i lo;have ba:=rY n (sV n i lo);have l:∀y f,y<a.next→a.get y=.cells f 0→S.get y=.cells f 0:=fun y f N h=>K y f (by simp only[go_sem];omega) ((w y N).trans h)
  refine apm n M i L lo hi P bs J a.next v2 _ Y _ _ _ ?_ U ?_ ?_ (l 6 _ aa j) ?_ ae ?_ Z aa aa ?_
  ·rw[b 3 ag ag];simp only[go_sem,q]
  ·rw[b 7 ag ag];simp only[go_sem]
  ·rw[b 8 ag ag];simp only[go_sem]
  ·refine K _ _ (by simp only[go_sem];omega) ?_;simp only[go_sem]
  ·rw[aS];omega
  intro Q H3 v3 g3 d W al t ab a9;have T:rd 12 Q=ah (i:Int):=by rw[d 12 ag ag,b 12 ag ag];simp only[go_sem,p]
  simp only[go_sem,aek,T,w1];refine⟨n-(i+1),aa,i+1,v3,g3,rfl,aa,?_,?_,?_,?_,?_,?_,?_,t _ _ aa (l _ _ aa G),t _ _ aa (l _ _ aa j),t _ _ aa (l _ _ aa br),ab,aa,?_⟩
  ·simp only[go_sem];rw[d 2 ag ag,b 2 ag ag];simp only[go_sem,C]
  ·simp only[go_sem];rw[d 3 ag ag,b 3 ag ag];simp only[go_sem,q]
  ·simp only[go_sem];rw[d 4 ag ag,b 4 ag ag];simp only[go_sem,D]
  ·simp only[go_sem];exact W
  ·simp only[go_sem];rw[d 10 ag ag,b 10 ag ag];simp only[go_sem,B]
  ·simp only[go_sem];rw[d 11 ag ag,b 11 ag ag];simp only[go_sem,o]
  ·simp only[go_sem]
  ·rw[CZ x,Rg,dD,dK,m5 aa,wq,wq,←eJ];exact al
 ·have ap:i=n:=aa;subst ap;have r:decide ((i:Int)<(i:Int))=false:=aZ aa;rw[b_ aa]at u;simp only[go_sem,MY,o,p,r];refine hR _ _ v g ?_ ?_ ?_ G j br I ar u
  iterate 3 simp only[go_sem,C,D,E]
theorem G2(n i:Nat)(a:n=1∨n=2)(hi:i<n):ord (U n i) (Z n)=1:=by
 have h:(n=1∧i=0)∨(n=2∧i=0)∨(n=2∧i=1):=aa;rcases h with⟨rfl,rfl⟩|⟨rfl,rfl⟩|⟨rfl,rfl⟩<;>decide
theorem RI(n i:Nat)(g:n=1∨n=2)(hi:i<n)(c d:Rat)(e:a_ 100 c)(f:c.num≠0)(h:a_ 100 d):jo n (jO n i c d):=by
 have a:=yB n i g hi;unfold jO hY;by_cases b:d.num=0
 ·rw[ak b];exact⟨fun t ht=>by rw[dj.1 ht];exact⟨e,f,a.l1,a.s1⟩,List.pairwise_singleton _ _,aB⟩
 ·rw[aj b];refine⟨fun t ht=>?_,?_,aB⟩
  ·rcases g7.1 ht with rfl|ht
   ·exact⟨e,f,a.l1,a.s1⟩
   ·rw[dj.1 ht];exact⟨h,b,a.l2,a.s2⟩
  ·refine tD.2 ⟨fun t ht=>?_,List.pairwise_singleton _ _⟩;rw[dj.1 ht];exact G2 n i g hi
theorem HD(n:Nat)(b:n=1∨n=2):∀(j:Nat) (l:List dH),j+l.length≤n→(∀s∈l,k3 s.1∧k3 s.2)→∀q∈h_ n j l,jo n q
 |_,[],_,_,q,hq=>by cases hq
 |j,s::l,e,d,q,hq=>by
  rw[cL]at e;have a:=d s aB;rw[h_]at hq;rcases gI.1 hq with hq|hq
  ·rcases gI.1 hq with hq|hq
   ·unfold sV at hq;split at hq
    ·cases hq
    ·rename_i c;rw[dj.1 hq];exact RI n j b aa _ _ (Hj.mono ag) ag ((Cs (a.1.num c).2.1).mono ag)
   ·unfold ua at hq;split at hq
    ·cases hq
    ·rename_i c;rw[dj.1 hq];exact RI n j b aa _ _ (Hi.mono ag) ag ((a.2.num c).2.1.mono ag)
  ·exact HD n b (j+1) l aa (fun s a=>d s (by simp[a])) q hq
theorem apa(p:fz)(h:p.aA)(bs:List dH)(k:bs.length=p.n)(o:∀s∈bs,k3 s.1∧k3 s.2):c4 54 [js p,ij bs] (.az [lN p.n p.obj (p.is++h_ p.n 0 bs) p.es,ah 0]):=by
 have c:=h.n;have J:=x3 p.n 0 bs;have E:=HD p.n c 0 bs aa o;have d:=agO p h (h_ p.n 0 bs) E aa;have C:bz (.az [lN p.n p.obj (p.is++h_ p.n 0 bs) p.es,ah 0]):=.az (.cons (vm _ c _ _ _) (.cons (.int _ _) .nil));refine dm (.cons (sG p c) (.cons (pe bs) .nil)) (Ef hT b7 fY O7.1 O7.2 (by kernel_rfl) 3 50 rfl rfl ?_);unfold js ij;simp only[go_sem,d54,aep,aeo,aP.cutAt,k];refine apn p.n c bs k o (oo p) _ _ _ p.n ⟨0,.an,0,rfl,bQ _,?_,?_,?_,?_,?_,?_,?_,?_,?_,?_,?_,?_,.nil⟩ ?_
 iterate 6 simp only[go_sem]
 ·simp only[go_sem];rfl
 ·simp only[go_sem];rfl
 iterate 2 simp only[go_sem]
 ·exact((aiy.push ag _).push (by simp only[go_sem];decide) _).push (by simp only[go_sem];decide) _
 ·simp only[go_sem];decide
 intro a b v g w x z i A br j I D;have m:∀y f g,y<8→b.get y=.cells f g→g=0:=fun y f g F e=>by
  by_cases B:y<5
  ·exact j.cells B e
  ·rcases(aa:y=5∨y=6∨y=7)with rfl|rfl|rfl
   ·rw[i]at e;cases e;rfl
   ·rw[A]at e;cases e;rfl
   ·rw[br]at e;cases e;rfl
 rw[fA];simp only[go_sem];refine Iw (b.low 8) (fun t=>if t=6 then cA p.n (h_ p.n 0 bs)else if t=2∨t=4 then rd t a else .any) (En ag m) (fun t K=>?_) ?_
 ·show bR _ _ _ (if t=6 then _ else _);by_cases h:t=6
  ·subst h;rw[ak rfl,z];exact D.F3 ag m (rY _ _)
  ·rw[aj h];split
   ·exact .same _
   ·exact .any _
 have q:rd 2 (kY (fun t=>if t=6 then cA p.n (h_ p.n 0 bs)else if t=2∨t=4 then rd t a else .any) 50)=.ptr 5 0:=by rw[qJ _ ag];exact w
 have r:rd 4 (kY (fun t=>if t=6 then cA p.n (h_ p.n 0 bs)else if t=2∨t=4 then rd t a else .any) 50)=.ptr 7 0:=by rw[qJ _ ag];exact x
 have u:rd 6 (kY (fun t=>if t=6 then cA p.n (h_ p.n 0 bs)else if t=2∨t=4 then rd t a else .any) 50)=cA p.n (h_ p.n 0 bs):=by rw[qJ _ ag];rfl
 generalize kY (fun t=>if t=6 then cA p.n (h_ p.n 0 bs)else if t=2∨t=4 then rd t a else .any) 50=H at q r u
 have G:(b.low 8).get 5=.cells (oo p) 0:=by rw[af.qw,ak ag];exact i
 have fP:(b.low 8).get 7=.cells [.an,ah 0,.an,.an,.an] 0:=by rw[af.qw,ak ag];exact br
 have l:GT (b.low 8):=j.gt.keep fun y F=>by rw[af.qw,ak aa]
 unfold js at d;unfold lN ig at d;simp only[go_sem,aen,q,u,G,oo];refine bL d l ?_;simp only[go_sem,r,fP];exact bZ (l.set ag _) rfl C
def Iu:aP:=(.bN [ex 17 (cz none 2 (rd 13) (rd 15)),ex 18 (bp true 2 (rd 17)),ex 6 (alloc [(.str []),(.str [])]),bE (st 2 (rd 6) (rd 18))])
def yE:aP:=(.seq (.bN [ex 19 (fa 0 (rd 6)),ex 20 (bp false 1 (rd 19)),ex 21 (bs .neq (rd 20) (kc (.str []))),ex 22 (mv (rd 21)),bF 22 true 23 (fa 0 (rd 6)),bF 22 true 24 (bp false 1 (rd 23)),bF 22 true 25 (cm 72 [(rd 24)]),bF 22 true 26 (not (rd 25)),ex 27 (pick (rd 22) (rd 26) (kc aD)),ex 28 (mv (rd 27)),bF 28 false 29 (fa 1 (rd 6)),bF 28 false 30 (bp false 1 (rd 29)),bF 28 false 31 (bs .neq (rd 30) (kc (.str []))),bF 28 false 32 (mv (rd 31)),bF 32 true 33 (fa 1 (rd 6)),bF 32 true 34 (bp false 1 (rd 33)),bF 32 true 35 (cm 72 [(rd 34)]),bF 32 true 36 (not (rd 35)),bF 28 false 37 (pick (rd 32) (rd 36) (kc aD)),ex 38 (pick (rd 28) (kc bO) (rd 37))]) (.cond (rd 38) (.seq (.bN [ex 4 (bS (kc aD))]) .ret) .skip))
def C_:aP:=(.bN [ex 39 (fa 0 (rd 6)),ex 40 (bp false 1 (rd 39)),ex 41 (bs .neq (rd 40) (kc (.str []))),ex 42 (mv (rd 41)),bF 42 true 43 (fa 1 (rd 6)),bF 42 true 44 (bp false 1 (rd 43)),bF 42 true 45 (bs .neq (rd 44) (kc (.str []))),ex 46 (pick (rd 42) (rd 45) (kc aD)),ex 47 (mv (rd 46)),bF 47 true 48 (fa 0 (rd 6)),bF 47 true 49 (bp false 1 (rd 48)),bF 47 true 50 (fa 1 (rd 6)),bF 47 true 51 (bp false 1 (rd 50)),bF 47 true 52 (cm 57 [(rd 49),(rd 51)]),bF 47 true 53 (bi .geq (rd 52) (kc (ah 0))),ex 54 (pick (rd 47) (rd 53) (kc aD))])
def C':aP:=(.cond (rd 54) (.seq (.bN [ex 4 (bS (kc aD))]) .ret) .skip)
def Az:aP:=.seq C_ C'
theorem T2:(pc 61 1)=(.seq (.block 1 (.seq Iu (.seq yE Az))) (pc 61 0)):=aeF
def nv(x:List UInt8):Bool:=decide (x=[])||(numOf x).isSome
def lG(s:dH):Bool:=(nv s.1&&nv s.2)&& !((!decide (s.1=[])&& !decide (s.2=[]))&& !decide (fL (rv s.1-rv s.2)<0))
theorem arH(lo hi:List UInt8)(o:lo.length≤500)(n:hi.length≤500)(x:Nat)(F:Fr)(H:af)(K:Fr→af→Prop)(R:X→Fr→af→Prop)(f:rd 6 F=.ptr x 0)(g:H.get x=.cells [.str lo,.str hi] 0)(h:GT H)
 (a:(nv lo&&nv hi)=true→∀d,(∀t,t<16→rd t d=rd t F)→K d H) (b:(nv lo&&nv hi)=false→∀d,rd 4 d=aD→R .ret d H):
 bx yE (fq K R) F H:=by
 have m:=yD lo o;have j:=yD hi n;obtain⟨p,k⟩:∃p,p=(numOf lo).isSome:=⟨_,rfl⟩;obtain⟨q,l⟩:∃q,q=(numOf hi).isSome:=⟨_,rfl⟩;unfold nv at a b;rw[←k,←l]at a b;rw[←k]at m;rw[←l]at j;by_cases e:lo=[]
 ·rw[bk e]at a b;by_cases c:hi=[]
  ·rw[bk c]at a b;simp only[go_sem,yE,f,g,bk e,bk c,gG];exact a rfl _ fun t i=>by simp(disch:=omega)only[bV]
  ·rw[aZ c]at a b;simp only[go_sem,yE,f,g,bk e,aZ c,gG,iY];refine bL j h ?_;cases q
   ·simp only[go_sem,iY];exact b rfl _ (by simp only[go_sem])
   ·simp only[go_sem,gG];exact a rfl _ fun t i=>by simp(disch:=omega)only[bV]
 ·rw[aZ e]at a b;simp only[go_sem,yE,f,g,aZ e,iY];refine bL m h ?_;cases p
  ·simp only[go_sem,iY];exact b rfl _ (by simp only[go_sem])
  ·by_cases c:hi=[]
   ·rw[bk c]at a b;simp only[go_sem,f,g,bk c,gG];exact a rfl _ fun t i=>by simp(disch:=omega)only[bV]
   ·rw[aZ c]at a b;simp only[go_sem,f,g,aZ c,gG,iY];refine bL j h ?_;cases q
    ·simp only[go_sem,iY];exact b rfl _ (by simp only[go_sem])
    ·simp only[go_sem,gG];exact a rfl _ fun t i=>by simp(disch:=omega)only[bV]
theorem arI(lo hi:List UInt8)(o:lo.length≤500)(n:hi.length≤500)(j:a_ 100 (rv lo))(k:a_ 100 (rv hi))(x:Nat)(F:Fr)(H:af)(R:X→Fr→af→Prop)(g:rd 6 F=.ptr x 0)(h:H.get x=.cells [.str lo,.str hi] 0)(m:GT H)
 (a:((!decide (lo=[])&& !decide (hi=[]))&& !decide (fL (rv lo-rv hi)<0))=false→∀c,(∀t,t<16→rd t c=rd t F)→R .norm c H)
 (b:((!decide (lo=[])&& !decide (hi=[]))&& !decide (fL (rv lo-rv hi)<0))=true→∀c,rd 4 c=aD→R .ret c H):
 bx Az R F H:=by
 have l:=w9 lo hi o n j k ag;by_cases d:lo=[]
 ·rw[bk d]at a b;simp only[go_sem,Az,C_,C',g,h,bk d,gG];exact a rfl _ fun t i=>by simp(disch:=omega)only[bV]
 ·rw[aZ d]at a b;by_cases e:hi=[]
  ·rw[bk e]at a b;simp only[go_sem,Az,C_,C',g,h,aZ d,bk e,gG,iY];exact a rfl _ fun t i=>by simp(disch:=omega)only[bV]
  ·rw[aZ e]at a b;simp only[go_sem,Az,C_,C',g,h,aZ d,aZ e,iY];refine bL l m ?_;by_cases f:fL (rv lo-rv hi)<0
   ·rw[bk f]at a;simp only[go_sem,bk f,gG];exact a rfl _ fun t i=>by simp(disch:=omega)only[bV]
   ·rw[aZ f]at b;simp only[go_sem,aZ f,iY];exact b rfl _ (by simp only[go_sem])
def Ac(s:dH):Prop:=s.1.length≤20∧s.2.length≤20
def I3(l:List dH)(a:Fr)(k:Nat)(F:Fr)(H:af):Prop:=∃i:Nat,k=l.length-i∧i≤l.length∧rd 2 F=.ptr 5 0∧rd 13 F=b4 cw l∧rd 14 F=ah (l.length:Int)∧rd 15 F=ah (i:Int)∧GT H∧6≤H.next∧(l.take i).all lG=true
theorem arJ(l:List dH)(S:∀s∈l,Ac s)(hl:l.length≤1000)(F:Fr)(H:af)(R:X→Fr→af→Prop)(k:Nat)(M:I3 l F k F H)
 (N:l.all lG=true→∀f b,GT b→R (.exit 0) f b) (C:l.all lG=false→∀f b,rd 4 f=aD→GT b→R .ret f b):
 bx (.loop (pc 61 3)) R F H:=by
 refine bH (I3 l F) k M ?_;rintro m U g ⟨i,rfl,V,L,A,n,o,D,W,q⟩;rw[aeG];by_cases Q:i<l.length
 ·obtain⟨s,v⟩:∃s,l[i]? =some s:=⟨l[i],cn Q⟩;have E:=eT v;obtain⟨G,I⟩:=S s E;have z:=ia nE v;have r:decide ((i:Int)<(l.length:Int))=true:=bk aa;have T:aC .i64 ((i:Int)+1)=((i+1:Nat):Int):=by rw[aH _ aa];rfl
  have O:=ff (f:=cw) (k:=2) (l:=l) (i:=(i:Int)) (ik:=.i64) aa;have a:lG s=false→l.all lG=false:=fun h=>by
   rw[mY];intro B;rw[sg]at B;rw[B s E]at h;cases h
  have e:lG s=true→(l.take (i+1)).all lG=true:=fun h=>by
   rw[CZ v,List.all_append,q];simp[h]
  have x:a_ 100 (rv s.1):=(x7 (L:=20) G).mono ag;have y:a_ 100 (rv s.2):=(x7 (L:=20) I).mono ag;obtain⟨lo,hi⟩:=s;simp only at G I x y;unfold lG at a e;simp only at a e;simp only[cw]at z;have d:GT ((g.push (.cells [.str [],.str []] 0)).set g.next (.cells [.str lo,.str hi] 0)):=(D.push aa _).set aa _
  simp only[go_sem,M1,T2,Iu,A,n,o,r,O,bJ,z];refine arH lo hi aa aa g.next _ _ _ _ ?_ ?_ d ?_ ?_
  iterate 2 simp only[go_sem]
  ·intro t J c;rw[t]at a e;refine arI lo hi aa aa x y g.next _ _ _ ?_ ?_ d ?_ ?_
   ·rw[c 6 ag];simp only[go_sem]
   ·simp only[go_sem]
   ·intro u w j;rw[u]at e;have K:rd 15 w=ah (i:Int):=by rw[j 15 ag,c 15 ag];simp only[go_sem,o]
    simp only[go_sem,aeE,K,T];refine⟨l.length-(i+1),aa,i+1,rfl,aa,?_,?_,?_,?_,d,by(simp only[go_sem];omega),e rfl⟩
    ·simp only[go_sem];rw[j 2 ag,c 2 ag];simp only[go_sem,L]
    ·simp only[go_sem];rw[j 13 ag,c 13 ag];simp only[go_sem,A]
    ·simp only[go_sem];rw[j 14 ag,c 14 ag];simp only[go_sem,n]
    ·simp only[go_sem]
   ·intro u w p;rw[u]at a;exact C (a rfl) _ _ p d
  ·intro t J p;rw[t]at a;exact C (a rfl) _ _ p d
 ·have P:i=l.length:=aa;subst P;have r:decide ((l.length:Int)<(l.length:Int))=false:=aZ aa;rw[b_ (aE _)]at q;simp only[go_sem,M1,n,o,r];exact N q _ _ D
def th(n:Nat)(l:List dH):Bool:=decide (l.length=n)&&l.all lG
theorem arB(n:Nat)(l:List dH)(h:∀s∈l,Ac s)(hl:l.length≤1000):c4 61 [ij l,ah (n:Int)] (.bool (th n l)):=by
 refine dm (.cons (pe l) (.cons (.int _ _) .nil)) (aT alx ?_);have g:decide ((l.length:Int)=(n:Int))=decide (l.length=n):=decide_eq_decide.2 aa;unfold ij th;simp only[go_sem,d61,aeJ];rw[g];by_cases c:l.length=n
 ·rw[bk c];simp only[go_sem,aeI,gG];refine arJ l h hl _ _ _ l.length ⟨0,rfl,bQ _,?_,?_,?_,?_,e8,?_,rfl⟩ ?_ ?_
  iterate 3 simp only[go_sem]
  ·simp only[go_sem];rfl
  ·exact aE 6
  ·intro a d e b;simp only[go_sem,aeH,a];exact bZ b rfl (.bool _)
  ·intro a d e f b;simp only[go_sem,a,f];exact bZ b rfl (.bool _)
 ·rw[aZ c];simp only[go_sem,iY,Bool.false_and];exact bZ e8 rfl (.bool _)
theorem arx(p:fz)(h:p.aA)(l:List dH)(d:∀s∈l,Ac s)(hl:l.length≤1000):c4 17 [js p,ij l] (.bool (th p.n l)):=by
 have b:=Sr p h;have a:=arB p.n l d hl;have c:cT (eV p.n)=some (.val (ah (p.n:Int))):=rfl;refine dm (.cons (sG p h.n) (.cons (pe l) .nil)) (aT B0 ?_);unfold js at b⊢;unfold ij at a⊢;simp only[go_sem,d17,Yj];refine bL b e8 ?_;simp only[go_sem,c];refine bL a e8 ?_;simp only[go_sem];exact bZ e8 rfl (.bool _)
def ot(s:dH):Bool:= !(decide (s.1=[])||decide (s.2=[]))
@[go_sem]theorem auD(x:V):ru [.func 103 [] [],x]=some (.fn 103,[x]):=rfl
theorem ans(s:dH):aW 103 [.agg (cw s)] (.bool (!ot s)):=by
 refine cO (.cons (.agg (sH s)) .nil) (.bool _) (aT ajB ?_);unfold ot;by_cases a:s.1=[]
 ·simp only[go_sem,d103,KU,cw,bk a,Bool.true_or]
 ·simp only[go_sem,d103,KU,cw,aZ a,Bool.false_or,Bool.not_not]
def SW(l:List dH)(k:Nat)(F:Fr)(H:af):Prop:=∃i:Nat,k=l.length-i∧i≤l.length∧rd 0 F=b4 cw l∧rd 1 F=.func 103 [] []∧rd 7 F=ah (l.length:Int)∧rd 8 F=ah (i:Int)∧(l.take i).all ot=true
theorem aiT(l:List dH)(hl:l.length≤1000)(H:af):c7 159 [b4 cw l,.func 103 [] []] H fun v g=>(∃r:Int,v=ah r∧decide (r<0)=l.all ot)∧g=H:=by
 refine pJ (R:=fun v=>∃r:Int,v=ah r∧decide (r<0)=l.all ot) (.cons (iN sH l) (.cons (.func 103 .nil .nil) .nil)) (aT aj2 ?_) H;simp only[go_sem,d159,XU];refine bH (SW l) l.length ⟨0,rfl,bQ _,?_,?_,?_,?_,rfl⟩ ?_
 iterate 3 simp only[go_sem]
 ·simp only[go_sem];rfl
 rintro m w g ⟨i,rfl,x,h,j,a,b,c⟩;rw[XS];by_cases t:i<l.length
 ·obtain⟨s,f⟩:∃s,l[i]? =some s:=⟨l[i],cn t⟩;have n:=ia nE f;have e:decide ((i:Int)<(l.length:Int))=true:=bk aa;have u:aC .i64 ((i:Int)+1)=((i+1:Nat):Int):=by rw[aH _ aa];rfl
  have p:=ff (f:=cw) (k:=2) (l:=l) (i:=(i:Int)) (ik:=.i64) aa;simp only[go_sem,Ld,XR,h,j,a,b,e,p,bJ,n];refine use (ans s) ?_;cases d:ot s with
  |true=>
   simp only[go_sem,XQ,gG,b,u];refine⟨l.length-(i+1),aa,i+1,rfl,aa,?_,?_,?_,?_,?_⟩
   iterate 4 simp only[go_sem,h,j,a]
   ·rw[CZ f,List.all_append,c];simp[d]
  |false=>
   simp only[go_sem,iY];refine⟨_,.same _,.int _ _,_,rfl,?_⟩;have o:l.all ot=false:=by
    rw[mY];intro k;rw[sg]at k;rw[k s (eT f)]at d;cases d
   rw[o,aZ aa]
 ·have q:i=l.length:=aa;subst q;have e:decide ((l.length:Int)<(l.length:Int))=false:=aZ aa;rw[b_ (aE _)]at c;simp only[go_sem,Ld,XT,a,b,e];exact⟨_,.same _,.int _ _,_,rfl,by rw[c];rfl⟩
theorem UP(l:List dH)(hl:l.length≤1000):aW 102 [b4 cw l,.func 103 [] []] (.bool (!l.all ot)):=by
 refine cO (.cons (iN sH l) (.cons (.func 103 .nil .nil) .nil)) (.bool _) (aT ajA ?_);simp only[go_sem,d102,Ve];refine(aiT l hl _).mono ?_;rintro _ _ ⟨⟨r,rfl,a⟩,rfl⟩;simp only[go_sem,a]
theorem TM(l:List dH)(hl:l.length≤1000):aW 55 [ij l] (.bool (l.all ot)):=by
 refine cO (.cons (pe l) .nil) (.bool _) (aT alu ?_);unfold ij;simp only[go_sem,d55,aeq];refine use (UP l hl) ?_;simp only[go_sem,Bool.not_not]
theorem ai3(n i:Nat)(b:AK n i)(e:c.get a=.cells (cv (Z n)) 0)(d:H.get a=.none):bR c H (.slice a 0 n (.known n)) (b6 (Z n)):=by
 unfold b6;rw[b.l2];refine .row (m:=n) (cs:=cv (Z n)) ?_ b.hn.1 d (cD.refl _);rw[fJ e,c_,iC (by rw[j0,b.l2])]
theorem ai2(n i:Nat)(b:AK n i)(e:c.get a=.cells (cv (U n i)) 0)(d:H.get a=.none):bR c H (.slice a 0 n (.known n)) (b6 (U n i)):=by
 unfold b6;rw[b.l1];refine .row (m:=n) (cs:=cv (U n i)) ?_ b.hn.1 d (cD.refl _);rw[fJ e,c_,iC (by rw[j0,b.l1])]
theorem R9{b:af}{e n:Nat}{c d:Cap}{t:ax}(g:H.get a=.cells [.bool (decide (t.1.num<0)),mag (aN t.1.num.natAbs),aD,mag (aN (dd t.1)),.slice e 0 n c] 0)(f:b.get a=.none)(h:bR H b (.slice e 0 n c) (b6 t.2)):bR H b (.slice a 0 1 d) (bG [t]):=by
 refine .row (m:=5) (cs:=[.bool (decide (t.1.num<0)),mag (aN t.1.num.natAbs),aD,mag (aN (dd t.1)),.slice e 0 n c]) ?_ ag f (.cons (.same _) (.cons (.same _) (.cons (.same _) (.cons (.same _) (.cons h .nil)))));rw[fJ g];rfl
theorem arE(n i:Nat)(e:n=1∨n=2)(hi:i<n):aW 51 [ah (n:Int),ah (i:Int)] (gu n [(1,U n i)]):=by
 have a:=yB n i e hi;have h:=a.hn;have c:=a.F9;have f:=a.st;have d:mL 8 [ah 0] [ah (n:Int),ah (n:Int)]=some (.new (cv (Z n)) (.slice n n)):=by rw[ir aa,←c];simp
 have g:dJ none 1 [.slice 6 0 n (.known n),ah (i:Int)]=some (.val (.ptr 6 i)):=by rw[b3 aa];simp
 have b:=z3 1 ag;rw[show((1:Int):Rat)=1 from rfl]at b;unfold bw aV at b;refine fE (.cons (.int _ _) (.cons (.int _ _) .nil)) (aT alq ?_);simp only[go_sem,d51,aeh,aeg,aef,d,g,f];refine use b ?_;simp only[go_sem];refine⟨_,.agg (.cons (.same _) (.cons (R9 (t:=(1,U n i)) (e:=6) (n:=n) (c:=.known n) ?_ kN (ai2 n i a ?_ kN)) .nil)),tV n _,rfl⟩
 iterate 2 simp only[go_sem]
theorem zi(n i:Nat)(a:AK n i)(c d:Rat):kq n [(c,U n i)]∧kq n [(d,Z n)]:=⟨fun t b=>by rw[dj.1 b];exact⟨a.l1,cy a.s1 ag⟩,fun t b=>by rw[dj.1 b];exact⟨a.l2,cy a.s2 ag⟩⟩
theorem KL(n i:Nat)(p:n=1∨n=2)(hi:i<n)(q:Rat)(r:a_ 100 q):aW 64 [ah (n:Int),bw q] (gu n (j5 [(q,Z n)])):=by
 have d:=yB n i p hi;have w:=d.hn;have m:=d.F9;have o:mL 8 [ah 0] [ah (n:Int),ah (n:Int)]=some (.new (cv (Z n)) (.slice n n)):=by rw[ir aa,←m];simp
 have u:=H8 [(q,Z n)] n 100 n aa (zi n i d 0 q).2 (fun t v=>by rw[dj.1 v];exact r) aB aB;refine fE (.cons (.int _ _) (.cons (fX _) .nil)) (aT alz ?_);unfold bw aV;simp only[go_sem,d64,aeQ,o];obtain⟨a,c⟩:∃a,a=((((af.zero 5).push (.cells [.bool (decide (q.num<0)),mag (aN q.num.natAbs),aD,mag (aN (dd q))] 0)).push (.cells [ah 0,.an] 0)).push (.cells (cv (Z n)) 0)).push (.cells [.bool (decide (q.num<0)),mag (aN q.num.natAbs),aD,mag (aN (dd q)),.slice 7 0 n (.known n)] 0):=⟨_,rfl⟩;have l:a.get 6=.cells [ah 0,.an] 0:=by rw[c];simp only[go_sem]
 have br:a.get 7=.cells (cv (Z n)) 0:=by rw[c];simp only[go_sem]
 have eR:a.get 8=.cells [.bool (decide (q.num<0)),mag (aN q.num.natAbs),aD,mag (aN (dd q)),.slice 7 0 n (.known n)] 0:=by rw[c];simp only[go_sem]
 rw[←c];clear c;have h:tN a [ah (n:Int),.slice 8 0 1 (.known 1)] 8:=.arg (List.mem_cons_of_mem _ (dj.2 rfl));have s:tN a [ah (n:Int),.slice 8 0 1 (.known 1)] 7:=.cell h eR (o:=0) (n:=n) (c:=.known n) aB;have j:((a.set 8 .none).set 7 .none).get 7=.none:=by simp only[go_sem]
 have k:((a.set 8 .none).set 7 .none).get 8=.none:=by simp only[go_sem]
 refine(T7 (H:=a) [8,7] ((a.set 8 .none).set 7 .none) (fun b g=>?_) (fun y=>?_) rfl (.cons (.same _) (.cons (R9 (t:=(q,Z n)) eR k (ai3 n i d br j)) .nil)) (u _)).mono ?_
 ·simp only[g7,p6,or_false]at g;rcases g with rfl|rfl
  ·exact⟨⟨_,eR⟩,h⟩
  ·exact⟨⟨_,br⟩,s⟩
 ·rw[af.aK,af.aK];by_cases e:7=y
  ·subst e;rfl
  ·by_cases f:8=y
   ·subst f;rfl
   ·rw[aj e,aj f,aj (by simp only[g7,p6,or_false];omega)]
 rintro _ _ ⟨rfl,rfl⟩;simp only[go_sem,gu,f_,l];exact⟨_,.same _,tV n _,rfl⟩
theorem NJ{sz bytes n:Nat}{cs:List V}(h:c.get a=.cells [] 0)(g:kX s=some n)(k:dS c sz n s=some cs)(r:0<n)(j:cs.length=n*sz)(t:0<sz)(l:n≤1073741824∧bytes≤1024)
 (o:∀d b,aI b sz d cs (c.next+1)→(∀y,y<c.next→b.get y=c.get y)→b.next=c.next+2→e (put m i d) b):gj i e m (fH sz bytes [.slice a 0 0 (.known 0),s] c):=by
 have f:fH sz bytes [.slice a 0 0 (.known 0),s] c=lz c sz n cs:=by
  show ao (kX s) (fun n=>ao (dS c sz n s) fun p=>jX sz bytes (.slice a 0 0 (.known 0)) n p c)=_;rw[g];show ao (dS c sz n s) _=_;rw[k];show Bool.casesOn (motive:=fun _=>Option (V×af)) (fh n) (aQ (je (0+n) bytes) (Bool.casesOn (motive:=fun _=>Option (V×af)) (bM (0+n) 0) (ao (c.cS a 0 (0*sz)) fun q=>lz c sz (0+n) (cW q cs)) (ao (c.e5 a (0+0*sz) cs) fun c=>some (V.slice a 0 (0+n) (.known 0),c)))) _=_;rw[rH aa,qq ⟨aa,cy (j_ (aa:0+n≤1073741824) l.2) ag⟩,show bM (0+n) 0=false from by
   cases n with
   |zero=>omega
   |succ n=>rw[dK];rfl,fJ h]
  simp only[jb,c_,zD,zR,Cm,B5,dK]
 rw[f];refine o _ _ (.cells (f:=c.next) ?_ ?_ (aE _) aa j ?_ ?_) (fun y u=>?_) rfl
 ·rw[af.bf,aj (by show¬(c.next+1=c.next);omega),af.bf,ak rfl]
 ·rw[af.bf,ak (show(c.push (.cells cs (Nat.succ c.next))).next=c.next+1 from rfl)]
 ·show c.next+1<c.next+1+1;omega
 ·show c.next<c.next+1+1;omega
 ·rw[af.bf,aj (by show¬(c.next+1=y);omega),af.bf,aj aa]
theorem an9(n:Nat)(m:List V)(c:Rat)(d:ax)(hc:a_ h c)(hu:a_ u d.1)(hk:h+u≤30000000)(a6:m.length≤1000)(v:V)(F:Fr)(H:af)(R:X→Fr→af→Prop)
 (hv:(∃g,aI H 5 v m g)∨(m=[]∧v=.slice 9 0 0 (.known 0)∧H.get 9=.cells [] 0))
 (Y:rd 4 F=.ptr 6 0) (x:rd 5 F=.ptr 7 0) (Z:rd 7 F=v) (z:rd 8 F=ah 0) (G:H.get 6=.cells (aV c) 0) (br:H.get 7=.cells [ah (n:Int),bG [d]] 0) (a5:10≤H.next)
 (J:∀s o O g',(∀t,t<7→rd t s=rd t F)→rd 7 s=O→aI o 5 O (m++iu (c*d.1,d.2)) g'→(∀y w,y<10→H.get y=.cells w 0→o.get y=.cells w 0)→(∀y,y<5→H.get y=.none→o.get y=.none)→R (.exit 0) s o):
 bx (.loop (pc 62 2)) R F H:=by
 have B:=Rk c d.1 hc hu hk;have hl:cT (bG [d])=some (.val (ah 1)):=rfl;have P:decide ((0:Int)<1)=true:=rfl;have d11:decide ((1:Int)<1)=false:=rfl;have a2:aC .i64 ((0:Int)+1)=1:=rfl;have ar:dJ none 5 [bG [d],ah 0]=some (.val (.cY (de [d]) 0)):=pz aB;have t1:cq (de [d]) 4=some [.bool (decide (d.1.num<0)),mag (aN d.1.num.natAbs),aD,mag (aN (dd d.1))]:=rfl;have N:cK (de [d]) 4=some (b6 d.2):=rfl;obtain⟨p,hp⟩:∃p,p=c*d.1:=⟨_,rfl⟩;rw[←hp]at B J;refine qX 2 ?_;rw[kz];obtain⟨K,I⟩:∃K,K=qa eP 5 (pc 62 2) R 1:=⟨_,rfl⟩;rw[←I];unfold bw aV at B;unfold aV at G;simp only[go_sem,M3,aeL,Y,x,Z,z,G,br,hl,P,ar,t1,N];refine use B ?_;have Q:bg (b6 d.2)=true:=rfl;have S:cellsOf (b6 d.2)=[b6 d.2]:=rfl;have a3:V.one (b6 d.2)=true:=rfl;simp only[go_sem,br,N,Q,S,true_and];have a0:cG [V.bool (decide (p.num<0)),mag (aN p.num.natAbs),aD,mag (aN (dd p)),b6 d.2]=true:=rfl;have E:∀(i:Fr) (j:V) (f:af) (k:Nat),(∀t,t<7→rd t i=rd t F)→rd 8 i=ah 0→rd 5 i=.ptr 7 0→rd 7 i=j→aI f 5 j (m++iu (p,d.2)) k→(∀y,y<H.next→(∀a b,H.get y≠ .bB a b)→f.get y=H.get y)→bx (pc 62 0) (fq K R) i f:=by
  intro i j f k ac W T U q A;have fP:f.get 7=.cells [ah (n:Int),bG [d]] 0:=by rw[A 7 aa (by intro a b e;rw[br]at e;cases e),br]
  simp only[go_sem,aeK,W,a2];rw[I,kz];simp only[go_sem,M3,T,fP,hl,d11];refine J _ _ j k (fun t C=>?_) ?_ q (fun y w r e=>?_) (fun y r e=>?_)
  ·simp(disch:=omega)only[bV];exact ac t C
  ·simp only[go_sem,U]
  ·rw[A y aa (by intro a b l;rw[e]at l;cases l),e]
  ·rw[A y aa (by intro a b l;rw[e]at l;cases l),e]
 have a4:∀(i:Fr) (f:af),bx (pc 62 0) (fq K R) i f→iT 1 (fq (bx (pc 62 0) (fq K R)) (fq K R)) X.norm i f:=fun _ _ e=>e
 rcases hv with⟨g,q⟩|⟨rfl,rfl,cM⟩
 ·refine gW (bytes:=88) q rfl ag a0 ⟨aa,ag⟩ fun j f k D L M a7=>?_
  simp only[go_sem];refine E _ j f k (fun t C=>?_) ?_ ?_ ?_ D (fun y r e=>M y r (q.tT e))
  ·simp(disch:=omega)only[bV]
  iterate 3 simp only[go_sem,z,x]
 ·have aw:¬H.next=9:=aa
  refine NJ (bytes:=88) (sz:=5) (n:=1) (cs:=[V.bool (decide (p.num<0)),mag (aN p.num.natAbs),aD,mag (aN (dd p)),b6 d.2]) (by rw[af.bf,aj aw,cM]) rfl ?_ ag rfl ag ⟨ag,ag⟩ fun j f D L M=>?_
  ·show af.cS (H.push (.cells [V.bool (decide (p.num<0)),mag (aN p.num.natAbs),aD,mag (aN (dd p)),b6 d.2] 0)) H.next 0 (1*5)=_
   rw[fJ (cs:=[V.bool (decide (p.num<0)),mag (aN p.num.natAbs),aD,mag (aN (dd p)),b6 d.2]) (by rw[af.bf,ak rfl])];rfl
  simp only[go_sem];refine E _ j f _ (fun t C=>?_) ?_ ?_ ?_ D (fun y r e=>by rw[L y (by simp only[go_sem];omega),af.bf,aj aa])
  ·simp(disch:=omega)only[bV]
  iterate 3 simp only[go_sem,z,x]
theorem Qu(n:Nat)(hn:n=1∨n=2)(a:List ax)(Z:a.length≤1)(N:kq n a)(a2:∀t∈a,a_ 200 t.1)(c:Rat)(A:a_ 100 c)(u:ax)(D:a_ 100 u.1)(O:kq n [u]):aW 62 [gu n a,bw c,gu n [u]] (gu n (j5 (a++[(c*u.1,u.2)]))):=by
 have ae:=H8 (a++[(c*u.1,u.2)]) n 200 n aa (fun t ht=>by
  rcases gI.1 ht with ht|ht
  ·exact N t ht
  ·rw[dj.1 ht];exact O u aB) (fun t ht=>by
  rcases gI.1 ht with ht|ht
  ·exact a2 t ht
  ·rw[dj.1 ht];exact A.mul D) (by rw[aS,gH];omega) (by rw[aS,gH];omega)
 refine fE (.cons (tV _ _) (.cons (fX _) (.cons (tV _ _) .nil))) (Ef hT b7 fY O8.1 O8.2 (by kernel_rfl) 3 42 rfl rfl ?_);unfold gu f_ bw;have k1:∀q,bg (.agg (aV q))=true:=fun _=>rfl
 simp only[go_sem,d62,aeO,aeN,aP.cutAt];obtain⟨b,d⟩:∃b,b=(((((af.zero 5).push (.cells [ah (n:Int),bG a] 0)).push (.cells (aV c) 0)).push (.cells [ah (n:Int),bG [u]] 0)).push (.cells [ah 0,.an] 0)).push (.cells [] 0):=⟨_,rfl⟩;have Y:b.get 5=.cells [ah (n:Int),bG a] 0:=by rw[d];simp only[go_sem]
 have s:b.get 6=.cells (aV c) 0:=by rw[d];simp only[go_sem]
 have br:b.get 7=.cells [ah (n:Int),bG [u]] 0:=by rw[d];simp only[go_sem]
 have eR:b.get 8=.cells [ah 0,.an] 0:=by rw[d];simp only[go_sem]
 have cM:b.get 9=.cells [] 0:=by rw[d];simp only[go_sem]
 have ab:∀y,y<5→b.get y=.none:=fun y E=>by
  rw[d];rw[af.bf,aj (by simp only[go_sem];omega),af.bf,aj (by simp only[go_sem];omega),af.bf,aj (by simp only[go_sem];omega),af.bf,aj (by simp only[go_sem];omega),af.bf,aj (by simp only[go_sem];omega),af.e7]
 have a7:b.next=10:=by rw[d];simp only[go_sem]
 rw[←d];clear d;obtain⟨Q,z⟩:∃Q:X→Fr→af→Prop,Q=(gk [gy.cell 6 true 2] fun v1 p=>∃v,bR p (af.zero p.next) v1 v∧bz v∧v=V.agg [ah (n:Int),bG (j5 (a++[(c*u.1,u.2)]))]):=⟨_,rfl⟩
 rw[←z]
 have J:∀(f:Fr) (k:af) (v:V),rd 3 f=.ptr 5 0→rd 4 f=.ptr 6 0→rd 5 f=.ptr 7 0→rd 6 f=.ptr 8 0→rd 7 f=v→rd 8 f=ah 0→(∀y,y<10→k.get y=b.get y)→10≤k.next→((∃g,aI k 5 v (de a) g)∨(de a=[]∧v=.slice 9 0 0 (.known 0)∧k.get 9=.cells [] 0))→
  bx (.loop (pc 62 2)) (iT 0 (fq (bx (aP.cut 5 42 (pc 62 3)) Q) Q)) f k:=by
  intro f k v P R S T U W j ad hv;refine an9 n (de a) c u A D ag (by rw[pR];omega) v _ _ _ hv R S U W (by rw[j 6 ag,s]) (by rw[j 7 ag,br]) ad ?_;intro i m v3 g3 x M B o ac;have K:rd 3 i=.ptr 5 0:=by rw[x 3 ag];exact P
  have L:rd 6 i=.ptr 8 0:=by rw[x 6 ag];exact T
  have F:=o 5 _ ag (by rw[j 5 ag,Y]);have aw:=o 6 _ ag (by rw[j 6 ag,s]);have fP:=o 7 _ ag (by rw[j 7 ag,br]);have mI:=o 8 _ ag (by rw[j 8 ag,eR]);have C:∀y r g,y<9→m.get y=.cells r g→g=0:=fun y r g E e=>by
   by_cases w:y<5
   ·rw[ac y w (by rw[j y aa,ab y w])]at e;cases e
   ·rcases(aa:y=5∨y=6∨y=7∨y=8)with rfl|rfl|rfl|rfl
    ·rw[F]at e;cases e;rfl
    ·rw[aw]at e;cases e;rfl
    ·rw[fP]at e;cases e;rfl
    ·rw[mI]at e;cases e;rfl
  have al:de a++iu (c*u.1,u.2)=de (a++[(c*u.1,u.2)]):=by rw[wk];simp[de]
  rw[al]at B;rw[fA];simp only[go_sem];refine Iw (m.low 9) (fun t=>if t=7 then bG (a++[(c*u.1,u.2)])else if t=3∨t=6 then rd t i else .any) (En ag C) (fun t ht=>?_) ?_
  ·show bR _ _ _ (if t=7 then _ else _);by_cases h:t=7
   ·subst h;rw[ak rfl,M];exact B.F3 ag C (pR _)
   ·rw[aj h];split
    ·exact .same _
    ·exact .any _
  have G:rd 3 (kY (fun t=>if t=7 then bG (a++[(c*u.1,u.2)])else if t=3∨t=6 then rd t i else .any) 42)=.ptr 5 0:=by rw[qJ _ ag];exact K
  have H:rd 6 (kY (fun t=>if t=7 then bG (a++[(c*u.1,u.2)])else if t=3∨t=6 then rd t i else .any) 42)=.ptr 8 0:=by rw[qJ _ ag];exact L
  have I:rd 7 (kY (fun t=>if t=7 then bG (a++[(c*u.1,u.2)])else if t=3∨t=6 then rd t i else .any) 42)=bG (a++[(c*u.1,u.2)]):=by rw[qJ _ ag];rfl
  generalize kY (fun t=>if t=7 then bG (a++[(c*u.1,u.2)])else if t=3∨t=6 then rd t i else .any) 42=a4 at G H I
  have ap:(m.low 9).get 5=.cells [ah (n:Int),bG a] 0:=by rw[af.qw,ak ag];exact F
  have ar:(m.low 9).get 8=.cells [ah 0,.an] 0:=by rw[af.qw,ak ag];exact mI
  simp only[go_sem,aeM,G,I,ap];refine use ae ?_;simp only[go_sem,gu,f_,z,H,ar];exact⟨_,.same _,tV n _,rfl⟩
 cases a with
 |nil=>
  have e:fH 5 88 [V.slice 9 0 0 (Cap.known 0),bG []] b=some (.slice 9 0 0 (.known 0),b):=rfl;rw[e];simp only[go_sem];refine J _ _ _ ?_ ?_ ?_ ?_ ?_ ?_ (fun _ _=>rfl) aa (.inr ⟨rfl,rfl,cM⟩)
  all_goals simp only[go_sem]
 |cons t l=>
  have hl:l=[]:=oT (by rw[cL]at Z;omega);subst hl;refine xw (n:=1) (cs:=de [t]) cM ag rfl ag ⟨ag,ag⟩ fun v2 H4 q1 a1 a9=>?_
  simp only[go_sem];refine J _ _ _ ?_ ?_ ?_ ?_ ?_ ?_ (fun y E=>a1 y aa) aa (.inl ⟨_,q1⟩)
  all_goals simp only[go_sem]
theorem OB(t:ax):bB [t]=hY t:=by
 rw[vv];show(if t.1.num≠0 then(t.1,t.2)::bB []else bB [])=_;rw[xE];unfold hY;by_cases h:t.1.num=0
 ·rw[aj (fun a=>a h),ak h]
 ·rw[ak h,aj h]
theorem z0(t:ax):j5 [t]=hY t:=by
 unfold j5;rw[yl aB,OB]
theorem OC(s t:ax)(h:ord s.2 t.2=1)(a:s.1.num≠0):bB [s,t]=s::hY t:=by
 have b:gA s.1 s.2 [t]=(s.1,[t]):=by
  show(if ord s.2 t.2=0 then gA (s.1+t.1) s.2 []else(s.1,[t]))=_;rw[aj (by rw[h];decide)]
 rw[vv,b,ak a,OB]
theorem RW(s t:ax):iH [s,t]=if ic s t=true then [s,t]else [t,s]:=by
 rw[CR aB];rw[(aB:[s,t].length/2=1)];show sj (iH [s]) (iH [t]) ic=_;rw[yl aB,yl aB];by_cases h:ic s t=true
 ·rw[ak h];simp[h]
 ·rw[aj h];simp[h]
theorem aoq(s t:ax)(h:ord s.2 t.2=1)(a:s.1.num≠0):j5 [s,t]=s::hY t:=by
 unfold j5;rw[RW,ak (by unfold ic;rw[h];rfl),OC s t h a]
theorem aor(s t:ax)(h:ord s.2 t.2=1)(a:s.1.num≠0):j5 [t,s]=s::hY t:=by
 unfold j5;rw[RW,aj (by unfold ic;rw[G3 s.2 t.2,h];decide),OC s t h a]
theorem aon(n i:Nat)(a:n=1∨n=2)(hi:i<n)(x:Rat):j5 ([(1,U n i)]++[(x*1,Z n)])=jO n i 1 x:=by
 rw[Rat.mul_one];exact aoq (1,U n i) (x,Z n) (G2 n i a hi) (by show(1:Rat).num≠0;decide)
theorem aol(n i:Nat)(b:n=1∨n=2)(hi:i<n)(x:Rat):j5 (j5 [(x,Z n)]++[(-1*1,U n i)])=jO n i (-1) x:=by
 rw[z0,Rat.mul_one];have a:(-1:Rat).num≠0:=ag;unfold jO;by_cases h:x.num=0
 ·have e:hY (x,Z n)=[]:=ak h;rw[e];show j5 [(-1,U n i)]=_;rw[z0];exact aj a
 ·have e:hY (x,Z n)=[(x,Z n)]:=aj h;have:=aor (-1,U n i) (x,Z n) (G2 n i b hi) a;rw[e]at this⊢;exact this
def jA(e:Nat)(H:af)(b:Nat)(v:V)(a:List V):Prop:=(∃g,aI H b v a g)∨(a=[]∧v=.slice e 0 0 (.known 0)∧H.get e=.cells [] 0)
theorem jA.bg{v:V}(d:jA a c h v b):bg v=true∧cellsOf v=[v]∧V.one v=true:=by
 rcases d with⟨g,d⟩|⟨_,rfl,_⟩
 ·exact d.bg
 ·exact⟨rfl,rfl,rfl⟩
theorem jA.low{v:V}(d:jA a c h v b)(k:a<c.next)(e:∀y,y<c.next→H.get y=c.get y)(l:c.next≤H.next):jA a H h v b:=by
 rcases d with⟨g,d⟩|⟨f,i,j⟩
 ·exact .inl ⟨g,d.low e l⟩
 ·exact .inr ⟨f,i,by rw[e a k,j]⟩
theorem jA.set{v:V}{cs:List V}{y:Nat}(d:jA a c h v b)(j:c.get y=.cells cs 0)(k:y≠a)(o:cP):jA a (c.set y o) h v b:=by
 rcases d with⟨g,d⟩|⟨e,f,i⟩
 ·exact .inl ⟨g,d.set j o⟩
 ·exact .inr ⟨e,f,by rw[af.aK,aj k,i]⟩
theorem Nz{bytes:Nat}{v:V}{d:List V}(j:jA h c u v b)(F:h<c.next)(hl:d.length=u)(r:0<u)(D:cG d=true)(p:b.length+u≤1073741824∧bytes≤1024)
 (q:∀w f z,aI f u w (b++d) z→(∀y,y<c.next→(∀a x,c.get y≠ .bB a x)→f.get y=c.get y)→c.next<f.next→e (put m i w) f):gj i e m (fH u bytes [v,.slice c.next 0 1 (.known 1)] (c.push (.cells d 0))):=by
 rcases j with⟨g,j⟩|⟨rfl,rfl,B⟩
 ·exact gW j hl r D p fun o k A l t n E=>q o k A l (fun y s C=>n y s (j.tT C)) E
 ·refine NJ (n:=1) (cs:=d) (by rw[af.bf,aj aa,B]) rfl ?_ ag (by rw[hl,ga]) r ⟨ag,p.2⟩ fun o k l t n=>?_
  ·show af.cS (c.push (.cells d 0)) c.next 0 (1*u)=_
   rw[fJ (cs:=d) (by rw[af.bf,ak rfl]),c_,ga,iC hl]
  ·refine q o k _ l (fun y s _=>by rw[t y (by simp only[go_sem];omega),af.bf,aj aa]) (by rw[n];simp only[go_sem];omega)
def Rm:aP:=(.bN [ex 18 (mv (rd 16)),ex 19 (cz none 10 (rd 14) (rd 16)),ex 20 (bp true 10 (rd 19)),ex 7 (alloc [aD,.an,aD,.an,aD,.an,aD,.an,aD,aD]),ex 6 (bS (rd 18)),bE (st 10 (rd 7) (rd 20))])
def Rn:aP:=(.bN [ex 21 (fa 0 (rd 2)),ex 22 (bp false 1 (rd 21)),ex 23 (mv (rd 6)),ex 24 (cm 51 [(rd 22),(rd 23)]),ex 8 (alloc [(ah 0),.an]),bE (st 2 (rd 8) (rd 24))])
def CF:aP:=(.seq (.bN [ex 25 (fa 8 (rd 7)),ex 26 (bp false 1 (rd 25))]) (.cond (rd 26) (.bN [ex 27 (fa 3 (rd 2)),ex 28 (bp false 1 (rd 27)),ex 29 (bp true 2 (rd 8)),ex 30 (fa 0 (rd 7)),ex 31 (bp true 4 (rd 30)),ex 33 (fa 0 (rd 2)),ex 34 (bp false 1 (rd 33)),ex 32 (cm 63 [(rd 31)]),re 28 (bp false 1 (rd 27)),re 29 (bp true 2 (rd 8)),re 34 (bp false 1 (rd 33)),ex 35 (cm 65 [(kc (ah 1))]),re 28 (bp false 1 (rd 27)),re 29 (bp true 2 (rd 8)),re 34 (bp false 1 (rd 33)),ex 36 (cm 64 [(rd 34),(rd 35)]),re 28 (bp false 1 (rd 27)),re 29 (bp true 2 (rd 8)),ex 37 (cm 62 [(rd 29),(rd 32),(rd 36)]),re 28 (bp false 1 (rd 27)),ex 38 (c8 1 [(0,2)] [(ah 0),.an] [(rd 37)]),ex 39 (ap 2 32 (rd 28) (rd 38)),ex 40 (fa 3 (rd 2)),bE (st 1 (rd 40) (rd 39))]) .skip))
def HH:aP:=(.bN [ex 41 (fa 9 (rd 7)),ex 42 (bp false 1 (rd 41))])
def HI:aP:=(.cond (rd 42) (.bN [ex 43 (fa 3 (rd 2)),ex 44 (bp false 1 (rd 43)),ex 45 (fa 0 (rd 2)),ex 46 (bp false 1 (rd 45)),ex 47 (fa 4 (rd 7)),ex 48 (bp true 4 (rd 47)),ex 51 (bp true 2 (rd 8)),ex 49 (cm 64 [(rd 46),(rd 48)]),re 44 (bp false 1 (rd 43)),re 51 (bp true 2 (rd 8)),ex 50 (cm 65 [(kc (ah (-1)))]),re 44 (bp false 1 (rd 43)),re 51 (bp true 2 (rd 8)),ex 52 (cm 62 [(rd 49),(rd 50),(rd 51)]),re 44 (bp false 1 (rd 43)),ex 53 (c8 1 [(0,2)] [(ah 0),.an] [(rd 52)]),ex 54 (ap 2 32 (rd 44) (rd 53)),ex 55 (fa 3 (rd 2)),bE (st 1 (rd 55) (rd 54))]) .skip)
def CG:aP:=.seq HH HI
theorem TZ:(pc 18 1)=(.seq (.block 1 (.seq Rm (.seq Rn (.seq CF CG)))) (pc 18 0)):=Y1
def ux(n i:Nat)(s:cc):List (List ax):=if s.hl then [jO n i 1 (-s.lo)]else []
def vW(n i:Nat)(s:cc):List (List ax):=if s.hh then [jO n i (-1) s.hi]else []
theorem Cr:a_ 100 1:=Hj.mono ag
theorem aoC:a_ 100 (-1):=Hi.mono ag
theorem apC(n:Nat)(r:n=1∨n=2)(i:Nat)(hi:i<n)(s:cc)(hs:iK 90 s)(u:List ax)(d:V)(x y e:Nat)(v:V)(m:List V)(F:Fr)(H:af)(R:X→Fr→af→Prop)(K:Fr→af→Prop)
 (J:rd 2 F=.ptr 5 0) (L:rd 7 F=.ptr x 0) (o:rd 8 F=.ptr y 0) (f:H.get 5=.cells [ah (n:Int),ah (n:Int),bG u,v,d] 0) (A:H.get x=.cells (ez s) 0) (k:H.get y=.cells (f_ n [(1,U n i)]) 0) (C:jA e H 2 v m) (he:e<H.next) (a3:5≠e) (ba:m.length≤1000) (a6:8≤H.next) (a':x<H.next) (bb:y<H.next)
 (a5:bg d=true∧cellsOf d=[d]∧V.one d=true)
 (N:∀I g v',(∀t,t<18→rd t I=rd t F)→jA e g 2 v' (m++fj n (ux n i s))→g.get 5=.cells [ah (n:Int),ah (n:Int),bG u,v',d] 0→(∀z w,z<H.next→z≠5→H.get z=.cells w 0→g.get z=.cells w 0)→(∀z,z<5→H.get z=.none→g.get z=.none)→H.next≤g.next→K I g):
 bx CF (fq K R) F H:=by
 obtain⟨lo,a4,hl,hh⟩:=s;obtain⟨T,ar⟩:=hs;simp only at T ar;simp only[ez,aV,eS,eI]at A;simp only[f_]at k;cases hl with
 |false=>
  simp only[go_sem,CF,L,A];refine N _ _ v (fun t D=>?_) ?_ f (fun _ _ _ _ h=>h) (fun _ _ h=>h) (aE _)
  ·simp(disch:=omega)only[bV]
  ·show jA e H 2 v (m++[]);rw[fG];exact C
 |true=>
  have Y:=yB n i r hi;have B:=Rl lo;have c:=z3 1 ag;rw[show((1:Int):Rat)=1 from rfl]at c;have q:=KL n i r hi 1 Cr;rw[z0,show hY (1,Z n)=[(1,Z n)]from aj (by show¬(1:Rat).num=0;decide)]at q;have j:=Qu n r [(1,U n i)] aB (zi n i Y 1 1).1 (fun t D=>by rw[dj.1 D];exact Cr.mono ag) (-lo) ((Cs T).mono ag) (1,Z n) Cr (zi n i Y 1 1).2;rw[aon n i r hi]at j;obtain⟨p,O⟩:∃p,p=jO n i 1 (-lo):=⟨_,rfl⟩;rw[←O]at j;obtain⟨S,ae⟩:∃S,S= -lo:=⟨_,rfl⟩;rw[←ae]at B j;have ap:cG [V.int .i64 (n:Int),bG p]=true:=rfl;have kk:∀l:List ax,bg (bG l)=true∧cellsOf (bG l)=[bG l]∧V.one (bG l)=true:=fun _=>⟨rfl,rfl,rfl⟩
  obtain⟨a7,a8,a9⟩:=C.bg;unfold bw aV at B c q j;simp only[gu,f_]at q j;simp only[go_sem,CF,J,L,o,f,A,k];refine use B ?_;simp only[go_sem,o,f,k,true_and];refine use c ?_;simp only[go_sem,o,f,k,true_and];refine use q ?_;simp only[go_sem,o,f,k,true_and];refine use j ?_;simp only[go_sem,f,true_and];refine Nz (bytes:=32) C he rfl ag ap ⟨aa,ag⟩ fun G H4 M W E bd=>?_
  have Q:H4.get 5=.cells [ah (n:Int),ah (n:Int),bG u,v,d] 0:=by rw[E 5 aa (by intro a b h;rw[f]at h;cases h),f]
  obtain⟨w1,w2,w3⟩:=W.bg;simp only[go_sem,J,Q,w1,w2,w3];refine N _ _ G (fun t D=>?_) ?_ ?_ (fun z w P am h=>?_) (fun z P h=>?_) ?_
  ·simp(disch:=omega)only[bV]
  ·refine .inl ⟨M,?_⟩;have aw:=W.set Q (.cells [ah (n:Int),ah (n:Int),bG u,G,d] 0);rw[ux,ak rfl];show aI _ 2 G (m++fj n [jO n i 1 (-lo)]) M;rw[←O];simpa [fj,pI]using aw
  ·simp only[go_sem]
  ·rw[af.aK,aj (fun e=>am e.symm),E z P (by intro a b c;rw[h]at c;cases c),h]
  ·rw[af.aK,aj aa,E z aa (by intro a b c;rw[h]at c;cases c),h]
  ·simp only[go_sem];omega
theorem apD(n:Nat)(u:n=1∨n=2)(i:Nat)(hi:i<n)(s:cc)(hs:iK 90 s)(w:List ax)(f:V)(x y e:Nat)(v:V)(o:List V)(F:Fr)(H:af)(R:X→Fr→af→Prop)
 (K:rd 2 F=.ptr 5 0) (L:rd 7 F=.ptr x 0) (B:rd 8 F=.ptr y 0) (j:H.get 5=.cells [ah (n:Int),ah (n:Int),bG w,v,f] 0) (C:H.get x=.cells (ez s) 0) (q:H.get y=.cells (f_ n [(1,U n i)]) 0) (D:jA e H 2 v o) (he:e<H.next) (a3:5≠e) (a':o.length≤1000) (a5:8≤H.next) (a9:x<H.next) (ba:y<H.next)
 (a4:bg f=true∧cellsOf f=[f]∧V.one f=true)
 (N:∀J k v',(∀t,t<18→rd t J=rd t F)→jA e k 2 v' (o++fj n (vW n i s))→k.get 5=.cells [ah (n:Int),ah (n:Int),bG w,v',f] 0→(∀z A,z<H.next→z≠5→H.get z=.cells A 0→k.get z=.cells A 0)→(∀z,z<5→H.get z=.none→k.get z=.none)→H.next≤k.next→R .norm J k):
 bx CG R F H:=by
 obtain⟨lo,g,hl,hh⟩:=s;obtain⟨q1,E⟩:=hs;simp only at q1 E;simp only[ez,aV,eS,eI]at C;simp only[f_]at q;cases hh with
 |false=>
  simp only[go_sem,CG,HH,HI,L,C];refine N _ _ v (fun t c=>?_) ?_ j (fun _ _ _ _ h=>h) (fun _ _ h=>h) (aE _)
  ·simp(disch:=omega)only[bV]
  ·show jA e H 2 v (o++[]);rw[fG];exact D
 |true=>
  have Y:=yB n i u hi;have d:=z3 (-1) ag;rw[show(((-1:Int)):Rat)= -1 from rfl]at d;have r:=KL n i u hi g (E.mono ag);have P:∀t∈j5 [(g,Z n)],t=(g,Z n):=fun t c=>by
   rw[z0]at c;unfold hY at c;split at c
   ·cases c
   ·exact dj.1 c
  have m:=Qu n u (j5 [(g,Z n)]) (by rw[z0];exact Qb _) (fun t c=>by rw[P t c];exact(zi n i Y 1 g).2 _ aB) (fun t c=>by rw[P t c];exact E.mono ag) (-1) aoC (1,U n i) Cr (zi n i Y 1 1).1;rw[aol n i u hi]at m;obtain⟨p,O⟩:∃p,p=jO n i (-1) g:=⟨_,rfl⟩;rw[←O]at m;obtain⟨T,ae⟩:∃T,T=j5 [(g,Z n)]:=⟨_,rfl⟩;rw[←ae]at r m;have ap:cG [V.int .i64 (n:Int),bG p]=true:=rfl;have kk:∀l:List ax,bg (bG l)=true∧cellsOf (bG l)=[bG l]∧V.one (bG l)=true:=fun _=>⟨rfl,rfl,rfl⟩
  obtain⟨a6,a7,a8⟩:=D.bg;unfold bw aV at d r m;simp only[gu,f_]at r m;simp only[go_sem,CG,HH,HI,K,L,B,j,C,q];refine use r ?_;simp only[go_sem,B,j,q,true_and];refine use d ?_;simp only[go_sem,B,j,q,true_and];refine use m ?_;simp only[go_sem,j,true_and];refine Nz (bytes:=32) D he rfl ag ap ⟨aa,ag⟩ fun I H4 M W G bc=>?_
  have S:H4.get 5=.cells [ah (n:Int),ah (n:Int),bG w,v,f] 0:=by rw[G 5 aa (by intro a b h;rw[j]at h;cases h),j]
  obtain⟨w1,w2,w3⟩:=W.bg;simp only[go_sem,K,S,w1,w2,w3];refine N _ _ I (fun t c=>?_) ?_ ?_ (fun z A Q am h=>?_) (fun z Q h=>?_) ?_
  ·simp(disch:=omega)only[bV]
  ·refine .inl ⟨M,?_⟩;have aw:=W.set S (.cells [ah (n:Int),ah (n:Int),bG w,I,f] 0);rw[vW,ak rfl];show aI _ 2 I (o++fj n [jO n i (-1) g]) M;rw[←O];simpa [fj,pI]using aw
  ·simp only[go_sem]
  ·rw[af.aK,aj (fun e=>am e.symm),G z Q (by intro a b d;rw[h]at d;cases d),h]
  ·rw[af.aK,aj aa,G z aa (by intro a b d;rw[h]at d;cases d),h]
  ·simp only[go_sem];omega
def l5(n:Nat):Nat→List cc→List (List ax)
 |_,[]=>[]
 |j,s::l=>ux n j s++vW n j s++l5 n (j+1) l
theorem QW(n:Nat)(s:cc):∀(j:Nat) (l:List cc),l5 n j (l++[s])=l5 n j l++(ux n (j+l.length) s++vW n (j+l.length) s)
 |j,[]=>by simp[l5]
 |j,a::l=>by
  simp only[eS,l5,QW n s (j+1) l,cL,eJ];rw[(aa:j+1+l.length=j+(l.length+1))]
theorem QS(n i:Nat)(s:cc):(ux n i s).length≤1:=by unfold ux;split<;>simp
theorem aoQ(n i:Nat)(s:cc):(vW n i s).length≤1:=by unfold vW;split<;>simp
theorem Hq(n:Nat):∀(j:Nat) (l:List cc),(l5 n j l).length≤2*l.length
 |_,[]=>aE 0
 |j,s::l=>by
  have:=Hq n (j+1) l;have:=QS n j s;have:=aoQ n j s;simp only[l5,aS,cL];omega
variable{K:List (List ax)}
theorem jA.len{v:V}(b:jA a c 2 v (fj h K)):cT v=some (.val (ah (K.length:Int))):=by
 rcases b with⟨g,b⟩|⟨e,f,_⟩
 ·rw[b.len ag,rO,uW _ ag]
 ·have:=congrArg ku e;rw[rO]at this;have d:K.length=0:=by rw[kP]at this;omega
  rw[f,d];rfl
theorem jA.di{H:af}{v:V}(b:jA a H 2 v (fj h K)):bR H (af.zero H.next) v (fZ h K):=by
 rcases b with⟨g,b⟩|⟨d,e,_⟩
 ·exact F1 b (fun _ _ _=>kN)
 ·have:=congrArg ku d;rw[rO]at this;have c:K=[]:=oT (by rw[kP]at this;omega);rw[e,c];exact .eW _ _ _
def IY(n:Nat)(c:List ax)(b:List (List ax))(a:V)(l:List cc)(k:Nat)(F:Fr)(H:af):Prop:=∃(i:Nat) (v:V),k=l.length-i∧i≤l.length∧rd 2 F=.ptr 5 0∧rd 4 F=.ptr 6 0∧rd 14 F=c6 l∧rd 15 F=ah (l.length:Int)∧rd 16 F=ah (i:Int)∧
 H.get 5=.cells [ah (n:Int),ah (n:Int),bG c,v,a] 0∧H.get 6=.cells [ah 0,ah 0,.an,.an,.an] 0∧jA 7 H 2 v (fj n (b++l5 n 0 (l.take i)))∧8≤H.next
theorem apE(n:Nat)(A:n=1∨n=2)(g:List ax)(f:List (List ax))(bi:f.length≤2)(b:V)(E:bg b=true∧cellsOf b=[b]∧V.one b=true)(l:List cc)(hl:l.length=n)(G:∀s∈l,iK 90 s)(F:Fr)(H:af)(R:X→Fr→af→Prop)(k:Nat)(Y:IY n g f b l k F H)
 (Z:∀j h v,rd 2 j=.ptr 5 0→rd 4 j=.ptr 6 0→h.get 5=.cells [ah (n:Int),ah (n:Int),bG g,v,b] 0→h.get 6=.cells [ah 0,ah 0,.an,.an,.an] 0→jA 7 h 2 v (fj n (f++l5 n 0 l))→R (.exit 0) j h):
 bx (.loop (pc 18 3)) R F H:=by
 refine bH (IY n g f b l) k Y ?_;rintro m ba a ⟨i,v,rfl,be,d,C,p,q,r,t,D,u,bs⟩;rw[Y2];by_cases ap:i<l.length
 ·obtain⟨s,B⟩:∃s,l[i]? =some s:=⟨l[i],cn ap⟩;have I:=eT B;have W:=ia l8 B;have w:decide ((i:Int)<(l.length:Int))=true:=bk aa;have w1:aC .i64 ((i:Int)+1)=((i+1:Nat):Int):=by rw[aH _ aa];rfl
  have al:=ff (f:=ez) (k:=10) (l:=l) (i:=(i:Int)) (ik:=.i64) aa;have aw:=Hq n 0 (l.take i);rw[dD]at aw;have a0:=rO n (f++l5 n 0 (l.take i));rw[aS]at a0;have N:bg (.agg (ez s))=true:=rfl;have O:cellsOf (.agg (ez s))=ez s:=rfl;have P:cr (ez s)=10:=rfl;have Q:cC (ez s) [aD,.an,aD,.an,aD,.an,aD,.an,aD,aD] 0=some (ez s):=rfl;have S:cG (ez s)=true:=rfl;have J:=arE n i A aa;unfold gu at J;have c2:∀o,cG (f_ n o)=true:=fun _=>rfl
  have a5:¬a.next=5:=aa
  have ca:¬a.next=6:=aa
  have b':¬a.next+1=5:=aa
  have K:¬a.next+1=a.next:=aa
  unfold c6 at p;simp only[go_sem,Lx,TZ,Rm,p,q,r,w,al,bJ,W,N,O,P,Q,S];simp only[go_sem,Rn,d,a5,t];refine use J ?_;simp only[go_sem,f_];have z:∀y,y<a.next→((((a.push (.cells [aD,.an,aD,.an,aD,.an,aD,.an,aD,aD] 0)).set a.next (.cells (ez s) 0)).push (.cells [ah 0,.an] 0)).set (a.next+1) (.cells [ah (n:Int),bG [(1,U n i)]] 0)).get y=a.get y:=fun y hy=>by
   have q1:¬a.next=y:=aa
   have a7:¬a.next+1=y:=aa
   simp only[go_sem,q1,a7]
  have ab:=u.low aa z (by simp only[go_sem];omega);refine apC n A i aa s (G s I) g b a.next (a.next+1) 7 v _ _ _ _ _ ?_ ?_ ?_ (by rw[z 5 aa,t]) ?_ ?_ ab (by simp only[go_sem];omega) ag aa (by simp only[go_sem];omega) (by simp only[go_sem];omega) (by simp only[go_sem];omega) E ?_
  iterate 4 simp only[go_sem,d,K]
  ·simp only[go_sem];rfl
  intro bb M v2 c ac a3 x bj ar;simp only[go_sem]at ar;have a4:M.get 6=.cells [ah 0,ah 0,.an,.an,.an] 0:=x 6 _ (by simp only[go_sem];omega) ag (by rw[z 6 aa,D]);have ll:=QS n i s;have b0:=rO n (ux n i s);refine apD n A i aa s (G s I) g b a.next (a.next+1) 7 v2 _ _ _ _ ?_ ?_ ?_ a3 ?_ ?_ ac aa ag ?_ aa aa aa E ?_
  ·rw[c 2 ag];simp only[go_sem,d]
  ·rw[c 7 ag];simp only[go_sem]
  ·rw[c 8 ag];simp only[go_sem]
  ·refine x _ _ (by simp only[go_sem];omega) aa ?_;simp only[go_sem,K]
  ·refine x _ _ (by simp only[go_sem];omega) aa ?_;simp only[go_sem];rfl
  ·rw[aS];omega
  intro L H3 v3 e ad a1 ae bo bv;have a2:=ae 6 _ aa ag a4;have T:rd 16 L=ah (i:Int):=by rw[e 16 ag,c 16 ag];simp only[go_sem,r]
  simp only[go_sem,Y0,T,w1];refine⟨l.length-(i+1),aa,i+1,v3,rfl,aa,?_,?_,?_,?_,?_,a1,a2,?_,aa⟩
  ·simp only[go_sem];rw[e 2 ag,c 2 ag];simp only[go_sem,d]
  ·simp only[go_sem];rw[e 4 ag,c 4 ag];simp only[go_sem,C]
  ·simp only[go_sem];rw[e 14 ag,c 14 ag];simp only[go_sem,p];rfl
  ·simp only[go_sem];rw[e 15 ag,c 15 ag];simp only[go_sem,q]
  ·simp only[go_sem]
  ·rw[CZ B,QW,dD,dK,m5 aa,←eJ,←eJ,zX,zX];exact ad
 ·have am:i=l.length:=aa;subst am;have w:decide ((l.length:Int)<(l.length:Int))=false:=aZ aa;rw[b_ (aE _)]at u;simp only[go_sem,Lx,q,r,w];refine Z _ _ v ?_ ?_ t D u
  iterate 2 simp only[go_sem,d,C]
theorem Q8(p:fz)(h:p.aA)(l:List cc)(hl:l.length=p.n)(U:∀s∈l,iK 90 s):aW 18 [fD p,c6 l] (.az [fD ⟨p.n,p.obj,p.is++l5 p.n 0 l,p.es⟩,bO]):=by
 have R:=h.n;have Y:=h.li;have aw:=Hq p.n 0 l;obtain⟨a,k⟩:∃a,a=fZ p.n p.es:=⟨_,rfl⟩;have N:bg a=true∧cellsOf a=[a]∧V.one a=true:=by rw[k];exact⟨rfl,rfl,rfl⟩
 obtain⟨I,J,u⟩:=N;have Z:∀t,bg (bG t)=true∧cellsOf (bG t)=[bG t]∧V.one (bG t)=true:=fun _=>⟨rfl,rfl,rfl⟩
 obtain⟨a0,a1,ab⟩:=Z p.obj;refine fE (.cons (oA p) (.cons (lq l) .nil)) (aT B1 ?_);unfold fD;rw[←k];simp only[go_sem,d18,Y5];obtain⟨b,d⟩:∃b,b=((((af.zero 5).push (.cells [ah (p.n:Int),ah (p.n:Int),bG p.obj,fZ p.n p.is,a] 0)).push (.cells [ah 0,ah 0,.an,.an,.an] 0)).push (.cells [] 0)):=⟨_,rfl⟩;have x:b.get 5=.cells [ah (p.n:Int),ah (p.n:Int),bG p.obj,fZ p.n p.is,a] 0:=by rw[d];simp only[go_sem]
 have y:b.get 6=.cells [ah 0,ah 0,.an,.an,.an] 0:=by rw[d];simp only[go_sem]
 have br:b.get 7=.cells [] 0:=by rw[d];simp only[go_sem]
 have ar:b.next=8:=by rw[d];simp only[go_sem]
 rw[←d];clear d;obtain⟨Q,z⟩:∃Q:X→Fr→af→Prop,Q=(gk [gy.cell 4 true 5,gy.tmp 5] fun v1 q=>∃v,bR q (af.zero q.next) v1 v∧bz v∧v=V.az [.agg [ah (p.n:Int),ah (p.n:Int),bG p.obj,fZ p.n (p.is++l5 p.n 0 l),a],bO]):=⟨_,rfl⟩
 rw[←z];have D:∀(f:Fr) (c:af) (v:V),rd 1 f=c6 l→rd 2 f=.ptr 5 0→rd 4 f=.ptr 6 0→c.get 5=.cells [ah (p.n:Int),ah (p.n:Int),bG p.obj,v,a] 0→c.get 6=.cells [ah 0,ah 0,.an,.an,.an] 0→8≤c.next→jA 7 c 2 v (fj p.n p.is)→bx (pc 18 5) Q f c:=by
  intro f c v w K L g m S M;unfold c6 at w;simp only[go_sem,Y4,w];refine apE p.n R p.obj p.is Y a ⟨I,J,u⟩ l hl U _ _ _ l.length ⟨0,v,rfl,bQ _,?_,?_,?_,?_,?_,g,m,?_,S⟩ ?_
  iterate 2 simp only[go_sem,K,L]
  ·simp only[go_sem];rfl
  ·simp only[go_sem]
  ·simp only[go_sem];rfl
  ·show jA 7 c 2 v (fj p.n (p.is++[]));rw[fG];exact M
  intro al H3 v3 H r W A i;have P:=i.len;obtain⟨E,F,o⟩:=i.bg;have G:decide ((16:Int)<((p.is++l5 p.n 0 l).length:Int))=false:=aZ (by rw[aS];omega);simp only[go_sem,Y3,H,r,W,A,P,G,o,u,ab,iY,true_and];rw[z];simp only[go_sem,r];have O:bz (V.az [.agg [ah (p.n:Int),ah (p.n:Int),bG p.obj,fZ p.n (p.is++l5 p.n 0 l),a],bO]):=by
   rw[k];exact .az (.cons (oA ⟨p.n,p.obj,p.is++l5 p.n 0 l,p.es⟩) (.cons (.bool _) .nil))
  exact⟨_,.az (.cons (.agg (.cons (.same _) (.cons (.same _) (.cons (.same _) (.cons (i.set A ag (.cells [ah (p.n:Int),ah (p.n:Int),bG p.obj,v3,a] 0)).di (.cons (.same _) .nil)))))) (.cons (.same _) .nil)),O,rfl⟩
 by_cases j:p.is=[]
 ·have e:fH 2 32 [V.slice 7 0 0 (Cap.known 0),fZ p.n p.is] b=some (.slice 7 0 0 (.known 0),b):=by rw[j];rfl
  rw[e];simp only[go_sem,x];refine D _ _ (.slice 7 0 0 (.known 0)) ?_ ?_ ?_ ?_ ?_ ?_ ?_
  iterate 5 simp only[go_sem,y]
  ·simp only[go_sem];omega
  ·refine .inr ⟨by rw[j];rfl,rfl,?_⟩;simp only[go_sem,br]
 ·have T:0<p.is.length:=List.length_pos_iff.2 j;refine xw (n:=p.is.length) (cs:=fj p.n p.is) br T (rO _ _) ag ⟨aa,ag⟩ fun v2 H4 B C a2=>?_
  have g:=(C 5 aa).trans x;have m:=(C 6 aa).trans y;obtain⟨E,F,o⟩:=B.bg;simp only[go_sem,g,E,F,o];refine D _ _ v2 ?_ ?_ ?_ ?_ ?_ ?_ (.inl ⟨_,B.set g _⟩)
  iterate 5 simp only[go_sem,m]
  ·simp only[go_sem];omega
section
open Go.au Go.Proofs.Tryz
set_option maxRecDepth 100000
attribute [local irreducible] rd kc ex bE bF re rg mv bS pick alloc box bi bs be bp st fa cz cN dI c8 dN eB eA ms dx ek ej dY mx mn dX ap ee cJ dZ d_ cm ec ext er neg Go.au.not en ei ep eo ey eu ef ew dR dP u8
end
theorem amX(a b:Int):rz min2 [ah a,ah b]=some (.val (ah (min a b))):=by
 show some (aY.val (V.int .i64 (match lA b a with|true=>b|false=>a)))=_;rw[qz];by_cases h:b<a
 ·rw[bk h,(aa:min a b=b)]
 ·rw[aZ h,(aa:min a b=a)]
theorem ano(l:List Int)(H:af):c7 7 [me l] H fun v a=>v=.ptr H.next 0∧a=H.push (.cells (cB (l.take 400) 0) 0):=by
 refine aT fP ?_;have b:slice3 (j7 1) false true false [me l,ah (min (l.length:Int) 400)]=some (.val (me (l.take 400))):=by
  have e:(min (l.length:Int) 400).toNat=(l.take 400).length:=by rw[dD];omega
  unfold me;rw[CN aB ⟨aa,aa⟩,e,dF,←List.map_take,dD];rw[show List.take (min 400 l.length) l=List.take 400 l from by rw[List.take_eq_take_iff];omega]
 have c:bg (me (l.take 400))=true:=rfl;have d:cellsOf (me (l.take 400))=[me (l.take 400)]:=rfl;have bA:V.one (me (l.take 400))=true:=rfl;simp(disch:=omega)only[go_sem,d7,ae_,amX,b,c,d]
 first|exact⟨trivial,rfl⟩|exact⟨rfl,trivial⟩|trivial
theorem alX(l:List Int)(hl:l.length≤400)(a:hL l):kT l 8 [] fun v=>∃p:fz,p.aA∧v=fD p:=by
 refine nD .nil fun i hi=>aT mI ?_
 simp only[go_sem,d8,afm];refine eX (lE l hl a 2 ag) ag hi ?_ ?_
 ·simp only[go_sem,lT,cX]
 rintro _ o ⟨k,j,rfl⟩ c;have h:aC .i64 (1+(k:Int))=((k+1:Nat):Int):=by rw[aH _ aa];omega
 simp only[go_sem,h];refine eX (aoj l hl a (k+1) aa) ag c ?_ ?_
 ·simp only[go_sem]
 rintro _ f ⟨p,m,e,rfl⟩ d;have g:∀t,bg (bG t)=true∧cellsOf (bG t)=[bG t]∧V.one (bG t)=true:=fun _=>⟨rfl,rfl,rfl⟩
 have b:∀t,bg (fZ p.n t)=true∧cellsOf (fZ p.n t)=[fZ p.n t]∧V.one (fZ p.n t)=true:=fun _=>⟨rfl,rfl,rfl⟩
 unfold fD;simp only[go_sem,cX,(g p.obj).2.2,(b p.is).2.2,(b p.es).2.2];refine⟨f,_,d,?_,.same _,oA p,p,e,rfl⟩;simp only[go_sem]
def uI(s:dH):cc:=⟨rv s.1,rv s.2, !decide (s.1=[]), !decide (s.2=[])⟩
theorem P_:numOf []=none:=by
 cases h:numOf []with
 |none=>rfl
 |some q=>
  have a:=congrArg ku (vQ h);unfold bh at a;rw[aS,aS,kP]at a;have:=tQ q.num.natAbs;omega
theorem QV(x:List UInt8):(jj x).2=nv x∧(nv x=true→(jj x).1=rv x):=by
 unfold jj nv;by_cases h:x=[]
 ·rw[ak h,bk h];refine⟨rfl,fun _=>?_⟩;rw[h,CJ P_]
 ·rw[aj h,aZ h,Bool.false_or];obtain⟨b,c⟩:=QT x;refine⟨b,fun hi=>?_⟩;obtain⟨q,a⟩:=Option.isSome_iff_exists.1 hi;rw[c q a,s9 a]
theorem aoS(s:dH):uy s=if lG s then some (uI s)else none:=by
 obtain⟨k,i⟩:=QV s.1;obtain⟨l,j⟩:=QV s.2;unfold uy;rw[k,l];by_cases h:lG s=true
 ·rw[ak h];unfold lG at h;simp only[cu]at h;obtain⟨⟨a,b⟩,g⟩:=h;have m:¬(s.1≠[]∧s.2≠[]∧0≤fL (rv s.1-rv s.2)):=by
   rintro⟨c,d,f⟩;rw[aZ c,aZ d,aZ (aa:¬fL (rv s.1-rv s.2)<0)]at g;cases g
  rw[i a,j b];exact ak ⟨a,b,m⟩
 ·rw[aj h];by_cases a:nv s.1=true
  ·by_cases b:nv s.2=true
   ·rw[i a,j b,aj];rintro⟨_,_,g⟩;apply h;unfold lG;rw[a,b];by_cases c:s.1=[]
    ·rw[bk c];rfl
    ·by_cases d:s.2=[]
     ·rw[bk d];simp
     ·have f:fL (rv s.1-rv s.2)<0:=by
       by_cases f:fL (rv s.1-rv s.2)<0
       ·exact f
       ·exact absurd ⟨c,d,aa⟩ g
      rw[bk f];simp
   ·rw[aj (fun e=>b e.2.1)]
  ·rw[aj (fun e=>a e.1)]
theorem QX:∀l:List dH,s3 l=if l.all lG then some (l.map uI)else none
 |[]=>rfl
 |s::l=>by
  rw[s3,aoS,QX l,List.all_cons,List.map_cons];cases lG s<;>cases l.all lG<;>rfl
theorem aoP{l:List dH}(h:th a l=true):s0 a l=.az [c6 (l.map uI),bO]:=by
 unfold th at h;rw[cu]at h;unfold s0;rw[QX,ak h.2];show V.az [c6 (l.map uI),.bool (decide ((l.map uI).length=a))]=_;rw[g5,h.1]
def Dk:jR:=Ec 5 nJ qh qI 400
theorem SN:oP eP 5 Dk:=Kw hT b7 P4 fY 400
def BW(v:V):Bool:=match v with|.bool b=>b|_=>false
def Pf:Bool:=match Dk (.fn 10) [] cZ with
 |some (v,H)=>and (BW v) (and (u9 (H.get 0) (cZ.get 0)) (and (u9 (H.get 1) (cZ.get 1)) (u9 (H.get 4) (cZ.get 4))))
 |none=>false
theorem alT:Pf=true:=by kernel_rfl
theorem alS:c4 10 [] bO:=by
 refine dm .nil ?_;have h:=alT;unfold Pf at h;cases b:Dk (.fn 10) [] cZ with
 |none=>rw[b]at h;cases h
 |some r=>
  obtain⟨v,H⟩:=r;rw[b]at h;have c:and (BW v) (and (u9 (H.get 0) (cZ.get 0)) (and (u9 (H.get 1) (cZ.get 1)) (u9 (H.get 4) (cZ.get 4))))=true:=h;rw[cu,cu,cu]at c;obtain⟨d,j,k,l⟩:=c;have n:v=bO:=by
   cases v<;>first|(cases d;done)|skip
   exact congrArg V.bool d
  have m:GT H:=fun y p e=>by
   rw[←e];rw[kD]at e;split at e
   ·rename_i f;subst f;exact DS l
   ·split at e
    ·rename_i a;subst a;exact DS k
    ·split at e
     ·rename_i a;subst a;exact DS j
     ·cases e
  refine(SN b).mono fun q o ⟨g,i⟩=>?_
  rw[g,i];exact bZ m n (.bool _)
def zZ(p:fz):List V:=[ah (p.n:Int),ah (p.n:Int),bG p.obj,fZ p.n p.is,fZ p.n p.es]
theorem Ng(h:a<2^9):(dec a).length≤3:=by
 by_cases b:a=0
 ·rw[b];decide
 ·have:dec a=ds a:=aj b;rw[this];exact qn (k:=3) (qe h ag)
theorem ar8{s:cc}(h:iK 9 s):Ac (eE s):=by
 have b:∀q:Rat,a_ 9 q→(bh q).length≤20:=fun q a=>by
  have e:=Ng a.num;have f:=Ng a.den;unfold bh;rw[aS,aS];have c:(if q.num<0 then [(45:UInt8)]else []).length≤1:=by split<;>simp
  have d:(if q.den=1 then []else(47:UInt8)::dec q.den).length≤4:=by
   split
   ·simp
   ·rw[cL];omega
  omega
 unfold eE Ac;constructor
 ·show(if s.hl then bh s.lo else []).length≤20;split
  ·exact b _ h.1
  ·simp
 ·show(if s.hh then bh s.hi else []).length≤20;split
  ·exact b _ h.2
  ·simp
open Go.RowKit (Below)
def uL(k:IntKind)(l:List Nat):Array Value:=(l.map fun n=>Value.int k (.ofNat n)).toArray
def lK(w:World)(g:Nat)(k:IntKind)(l:List Nat):Prop:=∃t,w.heap[g]? =some (.cells (uL k l) t (0,0))
def rU(k:IntKind)(l:List Nat):List V:=l.map fun d:Nat=>V.int k (d:Int)
theorem aqM{k:IntKind}{l:List Nat}{i:Nat}{v:V}(h:(rU k l)[i]? =some v):∃n,l[i]? =some n∧v=.int k (.ofNat n):=by
 unfold rU at h;rw[iy]at h;cases hl:l[i]? with
 |none=>rw[hl]at h;cases h
 |some n=>rw[hl]at h;cases h;exact⟨n,rfl,rfl⟩
theorem lK.cell{w:World}{g:Nat}{k:IntKind}{l:List Nat}(h:lK w g k l){i n:Nat}(hi:l[i]? =some n):w.cell? ⟨g,i,none⟩=some (.int k (.ofNat n))∧w.frozen? ⟨g,i,none⟩=false:=by
 obtain⟨t,h⟩:=h;unfold World.cell? World.frozen?;simp only[h];refine⟨?_,aB⟩;simp[uL,hi]
theorem lK.kind{w:World}{g:Nat}{k:IntKind}{l:List Nat}(h:lK w g k l){o:Nat}{v:Value}(hc:w.cell? ⟨g,o,none⟩=some v):∃z,v=.int k z:=by
 obtain⟨t,h⟩:=h;unfold World.cell? at hc;simp only[h]at hc;simp[uL]at hc;obtain⟨a,_,h2⟩:=hc;exact⟨_,h2.symm⟩
def xM(b:Nat):Nat:=if b=0 then 20 else if b=1 then 64 else if b=4 then 32 else 0
def vz(S:List Nat)(w:World)(c:Nat):Option Obj:=if c∈S then w.heap[c]? else none
def rM(S:List Nat)(w:World):aG:=⟨fun b=>if b<5 then some ⟨b,0,xM b⟩else none,vz S w⟩
theorem xV{S:List Nat}{w:World}{b:Nat}(h:b<5):rM S w b=some ⟨b,0,xM b⟩:=ak h
theorem uv{S:List Nat}{w:World}{b:Nat}{l:Go.au.Loc}(h:rM S w b=some l):b<5∧l=⟨b,0,xM b⟩:=by
 by_cases hb:b<5
 ·rw[xV hb]at h;cases h;exact⟨hb,rfl⟩
 ·rw[show rM S w b=none from aj hb]at h;cases h
structure Start (w:World) (S:List Nat):Prop where
 t0:lK w 0 .u64 mQ
 t1:lK w 1 .u8 nC
 t4:lK w 4 .u8 qR
 size:5≤w.heap.size
 im:∀c∈S,(∃cs t fr,w.heap[c]? =some (.cells cs t fr))∧c≠0∧c≠1∧c≠4
theorem Dq{b g:Nat}{cs:List V}(h:cZ.get b=.cells cs g):g=0∧((b=0∧cs=rU .u64 mQ)∨(b=1∧cs=rU .u8 nC)∨(b=4∧cs=rU .u8 qR)):=by
 rw[kD]at h;split at h
 ·rename_i e;cases h;exact⟨rfl,.inr (.inr ⟨e,rfl⟩)⟩
 ·split at h
  ·rename_i e;cases h;exact⟨rfl,.inr (.inl ⟨e,rfl⟩)⟩
  ·split at h
   ·rename_i e;cases h;exact⟨rfl,.inl ⟨e,rfl⟩⟩
   ·cases h
theorem IS{w:World}{S:List Nat}(hS:Start w S){b g:Nat}{cs:List V}(h:cZ.get b=.cells cs g):g=0∧∃k L,lK w b k L∧cs=rU k L∧b<5∧L.length=xM b:=by
 obtain⟨h1,h2⟩:=Dq h;rcases h2 with⟨rfl,rfl⟩|⟨rfl,rfl⟩|⟨rfl,rfl⟩
 ·exact⟨h1,_,_,hS.t0,rfl,ag,rfl⟩
 ·exact⟨h1,_,_,hS.t1,rfl,ag,rfl⟩
 ·exact⟨h1,_,_,hS.t4,rfl,ag,rfl⟩
theorem SU{b x y:Nat}(h:cZ.get b=.bB x y):False:=by
 rw[kD]at h;split at h
 ·cases h
 ·split at h
  ·cases h
  ·split at h<;>cases h
theorem SV{b:Nat}{o:oh}(h:cZ.get b=.ck o):False:=by
 rw[kD]at h;split at h
 ·cases h
 ·split at h
  ·cases h
  ·split at h<;>cases h
theorem apd{w:World}{S:List Nat}(hS:Start w S):Rel (rM S w) cZ w:=by
 refine⟨?_,?_,?_,?_,?_,?_,?_,?_,?_,?_,?_⟩
 ·intro b l cs g i v e1 e2 _ FE;obtain⟨_,k,L,h1,rfl,h3,_⟩:=IS hS e2;obtain⟨_,rfl⟩:=uv e1;obtain⟨n,hn,rfl⟩:=aqM FE;refine⟨_,?_,.int k (.ofNat n)⟩;show w.cell? ⟨b,0+i,none⟩=_;rw[dK];exact(h1.cell hn).1
 ·intro b l i e1 hi;obtain⟨_,rfl⟩:=uv e1;have An:∀ {g:Nat}{k:IntKind}{L:List Nat},lK w g k L→i<L.length→(∃v',w.cell? ⟨g,0+i,none⟩=some v')∧w.frozen? ⟨g,0+i,none⟩=false:=by
   intro g k L h hi;have:=h.cell (cn hi);rw[dK];exact⟨⟨_,this.1⟩,this.2⟩
  have hi':i<xM b:=hi;unfold xM at hi';split at hi'
  ·rename_i e;subst e;exact An hS.t0 hi'
  ·split at hi'
   ·rename_i e;subst e;exact An hS.t1 hi'
   ·split at hi'
    ·rename_i e;subst e;exact An hS.t4 hi'
    ·omega
 ·intro b l cs g e1 e2;obtain⟨_,k,L,_,rfl,_,h4⟩:=IS hS e2;obtain⟨_,rfl⟩:=uv e1;unfold rU;rw[g5,h4];exact aE _
 ·intro b b' l l' e1 e2 Bq FE;obtain⟨_,rfl⟩:=uv e1;obtain⟨_,rfl⟩:=uv e2;exact absurd Bq FE
 ·intro b hb;have hb':5≤b:=hb;exact⟨aj aa,Ao.top b hb'⟩
 ·intro b l e1;obtain⟨h,rfl⟩:=uv e1;exact eG h hS.size
 ·intro b cs g leaf tY e1 e2;exact absurd (Dq e1).1 e2
 ·intro g leaf tY e1;exact(SU e1).elim
 ·intro b l o _ e2;exact(SV e2).elim
 ·intro c x e;have e':vz S w c=some x:=e;unfold vz at e';split at e'
  ·rename_i hc;obtain⟨⟨cs,t,fr,h1⟩,h2,h3,h4⟩:=hS.im c hc;rw[h1]at e';refine⟨by rw[h1];exact e',⟨cs,t,fr,(Option.some.inj e').symm⟩,fun b l e1 e2=>?_⟩;obtain⟨_,rfl⟩:=uv e1;have e2:b=c:=e2;rw[kD,aj aa,aj aa,aj aa]
  ·cases e'
 ·intro b cs g e;rw[(Dq e).1];exact Nat.zero_lt_succ _
theorem ahL(S:List Nat)(w:World):k9 5 (rM S w):=fun _ hg=>⟨_,xV hg⟩
theorem Ia{w w':World}{ψ:aG}{H':af}{g n:Nat}{k:IntKind}{L:List Nat}(hr:Rel ψ H' w')(hs:hN w w')(aiL:ψ g=some ⟨g,0,n⟩)(aic:H'.get g=.cells (rU k L) 0)(h:lK w g k L):w'.heap[g]? =w.heap[g]? :=by
 obtain⟨t,h0⟩:=h;obtain⟨cs',h1,h2⟩:=hs.shape g _ t (0,0) h0;rw[h1,h0];have:cs'=uL k L:=by
  refine Array.ext h2 ?_;intro i hi1 hi2;have zo:i<L.length:=by simpa [uL]using hi2
  have hn:(rU k L)[i]? =some (.int k (.ofNat L[i])):=by unfold rU;simp[zo]
  obtain⟨v',e1,e2⟩:=hr.cell aiL aic rfl hn;cases e2;rw[dK]at e1;unfold World.cell? at e1;simp only[h1]at e1;simp[hi1]at e1;rw[e1];simp[uL]
 rw[this]
theorem Ru{φ:aG}:∀l:List Int,bm φ (l.map fun z=>V.int .i64 z) (l.map fun z=>Value.int .i64 z)
 |[]=>.nil
 |z::l=>.cons (.int _ _) (Ru l)
theorem I8(c o i:Nat):(Addr.add ⟨c,o,none⟩ i)=⟨c,o+i,none⟩:=by
 unfold Addr.add;split
 ·rename_i e;rw[e];rfl
 ·rfl
theorem Qt{W:World}{c o:Nat}{sp:Option Nat}{v:Value}(h:W.cell? ⟨c,o,sp⟩=some v):sp=none:=by
 unfold World.cell? at h;cases sp with
 |none=>rfl
 |some s=>split at h<;>simp at h
theorem Up{W:World}{c o:Nat}{v:Value}(h:W.cell? ⟨c,o,none⟩=some v):∃cs t fr,W.heap[c]? =some (.cells cs t fr):=by
 unfold World.cell? at h;split at h
 ·rename_i e;exact⟨_,_,_,e⟩
 ·cases h
theorem Jm{W:World}{c o:Nat}{v:Value}{x:Obj}(hx:W.heap[c]? =some x)(h:W.cell? ⟨c,o,none⟩=some v):Obj.at x o v:=by
 intro w j hj;unfold World.cell? at h⊢;simp only[hx]at h;simp only[hj];exact h
def IZ(W:World)(sl:Value):Prop:=sl=.slice none 0 0∨∃(a:Addr) (len cap:Nat) (zs:List Int),sl=.slice (some a) len cap∧len=zs.length∧len≤cap∧(∀i,i<zs.length→W.cell? (a.add i)=some (.int .i64 (zs.getD i 0)))∧hL zs
open Go.ChangeShapes
theorem alY:(Rows.laid_internal_strconv_uint64pow10:DataW Unit)=Lib.tabData .u64 (mQ.map Int.ofNat):=by kernel_rfl
theorem alZ:(Rows.laid_math_bits_deBruijn64tab:DataW Unit)=Lib.tabData .u8 (nC.map Int.ofNat):=by kernel_rfl
theorem al0:(Rows.laid_math_bits_deBruijn32tab:DataW Unit)=Lib.tabData .u8 (qR.map Int.ofNat):=by kernel_rfl
theorem am8:bM 5 eP.globals.size=true:=by kernel_rfl
theorem apA:(oW 5).all (fun g=>(((begin eP (fun _ _=>0) default).world.heap[g]?).bind Obj.row?).isSome)=true:=by kernel_rfl
theorem Oy{W:World}(h:W.ShapedOpen eP)(g:Nat)(hg:g<5):∃cs t,W.heap[g]? =some (.cells cs t (0,0)):=by
 have h1:=sg.1 apA g (List.mem_range.2 hg);obtain⟨⟨zero,t⟩,hz⟩:=Option.isSome_iff_exists.1 h1;have hn:=mh am8;obtain⟨cs,h2,_⟩:=h.1 g zero t aa hz;exact⟨cs,t,h2⟩
theorem H_{W:World}(hsh:W.ShapedOpen eP){name:String}{g:Nat}{k:IntKind}{L:List Nat}{cs:Array Value}(hg:eP.globalNamed name=some g)(aiu:g<5)(hv:W.var? eP name=some cs)(hc:cs.toList=(L.map Int.ofNat).map fun z=>Value.int k z):lK W g k L:=by
 obtain⟨cs',t,hh⟩:=Oy hsh g aiu;unfold World.var? at hv;rw[hg]at hv;simp only[Option.bind_some,hh,Option.some.injEq]at hv;subst hv;refine⟨t,?_⟩;rw[hh];have:cs'=uL k L:=by
  apply tw;rw[hc];simp[uL]
 rw[this]
theorem Oz:eP.globalNamed "internal/strconv.uint64pow10"=some 0:=by kernel_rfl
theorem BR:eP.globalNamed "math/bits.deBruijn64tab"=some 1:=by kernel_rfl
theorem OA:eP.globalNamed "math/bits.deBruijn32tab"=some 4:=by kernel_rfl
structure DA (g:Nat) (n:Nat) (k:IntKind) (t e:TypeId):Prop where
 ty:(eP.globals[g]?).map (·.type)=some t
 ht:eP.underlying t=some (.array n e)
 he:eP.underlying e=some (.int k)
 hce:eP.cellsOf e=1
 hct:eP.cellsOf t=n
theorem aiY{H:Type}{enc:TypeId×Value→H}{P:Program}{t e:TypeId}{W W':World}{a:Option Addr}{len cap:Nat}{d:DataW H}{ps:List MemPlace}(ht:P.underlying t=some (.slice e))(he:P.underlying e=some (.int .i64))(hc:P.cellsOf e=1)
 (hb:Below W.heap.size W W') (h:DataW.Trod enc P W 0 (fun _=>true) true t (.slice a len cap) d ps):DataW.Trod enc P W' 0 (fun b=>decide (b<W.heap.size)) true t (.slice a len cap) d ps:=by
 obtain⟨fuel,hf⟩:=h;rcases open_ints ht he hc hf with⟨hcs,hx⟩|⟨x,l,c,zs,hcs,_,hl,hm,hz,hx,hcell,Ga⟩
 ·simp[Value.cells]at hcs;obtain⟨rfl,rfl,rfl⟩:=hcs;simp only[Prod.mk.injEq]at hx;obtain⟨rfl,rfl⟩:=hx;exact Go.RowKit.shut_slice_nil ht
 ·simp[Value.cells]at hcs;obtain⟨rfl,rfl,rfl⟩:=hcs;simp only[Prod.mk.injEq]at hx;obtain⟨rfl,rfl⟩:=hx;simp only[if_true]at hz;have hlt:0<zs.length→x.block<W.heap.size:=by
   intro h0;have h1:=hcell 0 h0;have h2:(x.add 0).block=x.block:=block_add x 0;unfold World.cell? at h1;rw[h2]at h1;rcases mj x.block W.heap.size with h3|h3
   ·exact h3
   ·rw[Array.getElem?_eq_none h3]at h1;cases h1
  refine⟨2,shut_ints 0 ht he hc (bQ _) hl hm ?_ ?_ Ga⟩
  ·by_cases h0:0<zs.length
   ·simp[hlt h0,hz]
   ·have:cap=0:=aa;have:len=0:=aa;simp_all
  ·intro i hi;rw[hb.cell (by rw[block_add];exact hlt aa)];exact hcell i hi
theorem wf_i64{z:Int}(h:(Lit.int .i64 z).wf=true): -9223372036854775808≤z∧z<9223372036854775808:=by
 have h':(decide (IntKind.min .i64≤z)&&decide (z≤IntKind.max .i64))=true:=h;rw[cu,decide_eq_true_eq,decide_eq_true_eq]at h';have e1:IntKind.min .i64= -9223372036854775808:=ag;have e2:IntKind.max .i64=9223372036854775807:=ag;rw[e1,e2]at h';omega
theorem Uq{W W':World}(hb:Below W.heap.size W W'){a:Addr}{n:Nat}{cs:List Value}(hn:0<n)(h:W.cells? 0 a n=some cs):W'.cells? 0 a n=some cs∧a.block<W.heap.size:=by
 obtain⟨h1,h2,h3⟩:=World.cells?_some h;have hlt:a.block<W.heap.size:=by
  have e:=h3 0 hn;have e2:(a.add 0).block=a.block:=block_add a 0;rw[cn aa]at e;unfold World.cell? at e;rw[e2]at e;rcases mj a.block W.heap.size with h4|h4
  ·exact h4
  ·rw[Array.getElem?_eq_none h4]at e;cases e
 refine⟨?_,hlt⟩;have:W'.cells? 0 a n=W.cells? 0 a n:=by
  unfold World.cells?;simp only[bQ,if_true];congr 1;funext i;exact hb.cell (by rw[block_add];exact hlt)
 rw[this,h]
section
variable {H:Type}{enc:TypeId×Value→H}{P:Program}{W W':World}
end
section
open Go.au
attribute [local irreducible] rd kc ex bE bF re rg mv bS pick alloc box bi bs be bp st fa cz cN dI c8 dN eB eA ms dx ek ej dY mx mn dX ap ee cJ dZ d_ cm ec ext er neg Go.au.not en ei ep eo ey eu ef ew dR dP u8
attribute [go_sem] Int.reduceToNat and_true eS eI kR true_and decide_true decide_false Int.reduceEq Int.reduceLT Int.reduceNe Nat.reduceLT
attribute [go_sem↓] reduceIte
variable{I:V→af→Prop}{M:aP}
theorem cV(f:Func){a:aP}{r:List gy}(_:(yZ none f.body).1=a:=by conv=>lhs;reduce)(_:a=M:=by(try simp only[Int.reduceOfNat,Int.reduceNegSucc,Im]);rfl)
 (_:uw f=r:=by conv=>lhs;reduce) (d:nJ.get aM u=some f:=by kernel_rfl) (g:sC 5 nJ qh f=some (M,r):=by kernel_rfl) (e:bM (cr b) f.ntmps=true:=by rfl)
 (h:bx M (gk r I) (lR b 0 .nil) c):c7 u b c I:=o6 hT b7 fY d g e h
theorem KQ(f:Func)(h:bx (wj a) (gk (uw f) I) (lR b 0 .nil) c)(d:nJ.get aM a=some f:=by kernel_rfl)(g:sC 5 nJ qh f=some (wj a,uw f):=by kernel_rfl)
 (e:bM (cr b) f.ntmps=true:=by rfl):c7 a b c I:=o6 hT b7 fY d g e h
def eF(B:Nat)(H a:af):Prop:=(∀y,y<B→a.get y=H.get y)∧B≤a.next
theorem eF.refl{B:Nat}(h:B≤c.next):eF B c c:=⟨fun _ _=>rfl,h⟩
theorem eF.push{B:Nat}{a:af}(h:eF B c a)(o:cP):eF B c (a.push o):=
 ⟨fun y b=>by rw[af.bf,aj (by have:=h.2;omega)];exact h.1 y b,Nat.le_succ_of_le h.2⟩
theorem eF.set{B:Nat}{b:af}(h:eF B c b)(e:B≤a)(o:cP):eF B c (b.set a o):=
 ⟨fun y d=>by rw[af.aK,aj aa];exact h.1 y d,h.2⟩
theorem eF.trans{B:Nat}{a d:af}(h:eF B c a)(e:eF B a d):eF B c d:=⟨fun y f=>(e.1 y f).trans (h.1 y f),e.2⟩
def kg(L:List Nat)(F e_:Fr):Prop:=match L with
 |[]=>True
 |t::l=>rd t F=rd t e_∧kg l F e_
@[go_sem]theorem awm(F e_:Fr):kg [] F e_=True:=rfl
@[go_sem]theorem apN(t:Nat)(l:List Nat)(F e_:Fr):kg (t::l) F e_=(rd t F=rd t e_∧kg l F e_):=rfl
theorem uD{F e_:Fr}:∀ {L:List Nat},kg L F e_↔∀t∈L,rd t F=rd t e_
 |[]=>⟨fun _ _ h=>(p6 h).elim,fun _=>trivial⟩
 |t::l=>by rw[apN,uD,List.forall_mem_cons]
def wS(L:List Nat)(B i m:Nat)(e_:Fr)(H0:af)(E:Fr→af→Prop)(R:X→Fr→af→Prop):X→Fr→af→Prop
 |.norm,F,H=>kg L F e_∧eF B H0 H∧rd i F=.int .i64 (m:Int)∧E F H
 |x,F,H=>R x F H
section
variable {L:List Nat}{B i m:Nat}{e_ F:Fr}{H0 H:af}{E:Fr→af→Prop}{R:X→Fr→af→Prop}
@[go_sem↓]theorem atp:wS L B i m e_ H0 E R .norm F H=(kg L F e_∧eF B H0 H∧rd i F=ah (m:Int)∧E F H):=rfl
@[go_sem↓]theorem atq:wS L B i m e_ H0 E R .ret F H=R .ret F H:=rfl
@[go_sem↓]theorem ato(k:Nat):wS L B i m e_ H0 E R (.exit k) F H=R (.exit k) F H:=rfl
end
theorem qK{v:V}{F:Fr}(b:h≠a):rd a (put F (some h) v)=rd a F:=by rw[Ht,aj b]
theorem DY{R c:X→Fr→af→Prop}(h:∀x F H,R x F H→c x F H):∀x F H,iT a R x F H→iT a c x F H:=by
 intro x F H b;cases x with
 |norm=>exact h _ _ _ b
 |ret=>exact h _ _ _ b
 |exit i=>
  by_cases e:i=a
  ·subst e;rw[fA]at b⊢;exact h _ _ _ b
  ·rw[DX e]at b⊢;exact h _ _ _ b
theorem each{j k o:Nat}{R:X→Fr→af→Prop}{F:Fr}(f:Nat)(L:List Nat)(B:Nat)(E:Nat→Fr→af→Prop)
 (hi:rd a F=ah 0) (T:rd h F=ah (f:Int)) (hl:f<1000000000) (O:h∈L∧a∉L∧u∉L∧j∉L∧a≠h∧u≠h∧a≠u∧a≠j) (N:B≤c.next)
 (l:∀m F c t v,t=u∨t=j∨t=a→E m F c→E m (put F (some t) v) c) (J:E 0 F c)
 (step:∀m b d,m<f→kg L b F→eF B c d→rd a b=ah (m:Int)→E m b d→bx M (iT o (wS L B a m F c (E (m+1)) (iT k R))) b d)
 (K:∀b d,kg L b F→eF B c d→E f b d→R .norm b d):
 bx (.loop (.seq (.bN [ex u (bi .lss (rd a) (rd h))]) (.seq (.cond (rd u) .skip (.exit k)) (.seq (.block o M) (.bN [ex j (bi .add (rd a) (kc (ah 1))),ex a (mv (rd j))]))))) (iT k R) F c:=by
 obtain⟨P,Q,A,S,d1,d2,d3,I⟩:=O;have n:∀(b:Fr) (z:Nat) (v:V),z∉L→(∀t∈L,rd t b=rd t F)→∀t∈L,rd t (put b (some z) v)=rd t F:=fun b z v W g t G=>by
  rw[qK (by rintro rfl;exact W G)];exact g t G
 refine bH (fun r b d=>∃m,r=f-m∧m≤f∧(∀t∈L,rd t b=rd t F)∧eF B c d∧rd a b=ah (m:Int)∧E m b d) f ⟨0,rfl,bQ _,fun _ _=>rfl,.refl N,hi,J⟩ ?_;rintro r b d ⟨m,rfl,hm,s,hh,w,C⟩;have D:rd h b=ah (f:Int):=by rw[s h P];exact T
 by_cases g:m<f
 ·have U:=step m (put b (some u) bO) d g (uD.2 (n _ _ _ A s)) hh (by rw[qK (Ne.symm d3)];exact w) (l _ _ _ _ _ (.inl rfl) C);simp only[go_sem,w,D,show((m:Int)<(f:Int))=True from eq_true aa,qK d3];refine Go.au.wp_mono M (fun x p q=>DY (fun x p q y=>?_) x p q) U;cases x with
  |norm=>
   obtain⟨Z,o,bA,ab⟩:=y;have Y:aC .i64 ((m:Int)+1)=((m+1:Nat):Int):=by rw[aH _ aa];omega
   show bx (.bN _) _ p q;simp only[go_sem,bA,Y,qK I];exact⟨f-(m+1),aa,m+1,rfl,g,n _ _ _ Q (n _ _ _ S (uD.1 Z)),o,by simp only[go_sem],l _ _ _ _ _ (.inr (.inr rfl)) (l _ _ _ _ _ (.inr (.inl rfl)) ab)⟩
  |ret=>exact y
  |exit e=>exact y
 ·have e:m=f:=aa;subst e;simp only[go_sem,w,D,show((m:Int)<(m:Int))=False from eq_false aa];exact K _ _ (uD.2 (n _ _ _ A s)) hh (l _ _ _ _ _ (.inl rfl) C)
end
section
open Go.au Go.aF
set_option maxRecDepth 100000
attribute [local irreducible] rd kc ex bE bF re rg mv bS pick alloc box bi bs be bp st fa cz cN dI c8 dN eB eA ms dx ek ej dY mx mn dX ap ee cJ dZ d_ cm ec ext er neg Go.au.not en ei ep eo ey eu ef ew dR dP u8
theorem bU(h:GT c:=by repeat (first|assumption|exact fB|refine GT.set ?_ (by first|exact nleb rfl|omega|(simp only[go_sem];omega)) _|refine GT.push ?_ (by first|exact nleb rfl|omega|(simp only[go_sem];omega)) _)):GT c:=h
def iR(n:Nat)(p:List ax):List V:=cj n p++cj n []
def qQ(n:Nat)(p:List ax):V:=.agg (iR n p)
theorem BG(n:Nat)(p:List ax):bY (cj n p):=.cons (.int _ _) (.cons (sI _) .nil)
theorem vp(n:Nat)(p:List ax):bY (iR n p):=lu (BG n p) (BG n [])
theorem OG(n:Nat)(p:List ax):c4 204 [qQ n p,ah (n:Int)] bO:=by
 refine dm (.cons (.agg (vp n p)) (.cons (.int _ _) .nil)) (cV Tryz.f204 (h:=?_));simp only[go_sem,qQ,iR,cj,eS,eI,decide_true];exact bZ bU rfl (.bool _)
theorem Cp(n:Nat):jo n []:=⟨fun _ h=>(p6 h).elim,.nil,bQ _⟩
theorem Ss(n:Nat)(a:n≤6)(p:List ax)(b:jo n p):c4 266 [qQ n p,ah 1] bO:=by
 refine dm (.cons (.agg (vp n p)) (.cons (.int _ _) .nil)) (cV Tryz.f266 (h:=?_));simp only[go_sem,qQ,iR,cj,eS,eI];refine bL (z2 n a p b) bU ?_;simp only[go_sem];refine bL (z2 n a [] (Cp n)) bU ?_;simp only[go_sem,eN,kP,decide_true,decide_false];exact bZ bU rfl (.bool _)
def k7:List V:=[aD,.an,aD,.an]
def wg(q:Rat):V:=.agg (b9 q++(k7++[ah 1]))
theorem N4:bY k7:=.cons (.bool _) (.cons .an (.cons (.bool _) (.cons .an .nil)))
theorem FU(q:Rat):bz (wg q):=.agg (lu (FR q) (lu N4 (.cons (.int _ _) .nil)))
theorem apL(q:Rat):c4 390 [c5 q] (wg q):=by
 refine dm (.cons (kW q) .nil) (cV Tryz.f390 (h:=?_));simp only[go_sem,c5,b9];exact bZ bU rfl (FU q)
theorem asc:c4 234 [.agg [aD,.an]] (ah 0):=by
 refine dm (.cons (.agg (.cons (.bool _) (.cons .an .nil))) .nil) (cV Tryz.f234 (h:=?_));simp only[go_sem,decide_true];exact bZ bU rfl (.int _ _)
theorem aoE:c4 171 [.agg k7] (ah 0):=by
 refine dm (.cons (.agg N4) .nil) (cV Tryz.f171 (h:=?_));simp only[go_sem,k7];refine bL asc bU ?_;simp only[go_sem];exact bZ bU rfl (.int _ _)
def tc(s:List UInt8):V:=.agg [.str s,.str [48],ah 1]
theorem ao3(q:Rat)(a:a_ 100 q):c4 368 [tc (bh q)] (.az [wg q,bO]):=by
 refine dm (.cons (.agg (.cons (.str _) (.cons (.str _) (.cons (.int _ _) .nil)))) .nil) (cV Tryz.f368 (h:=?_));simp only[go_sem,tc];refine bL (Hv q a) bU ?_;simp only[go_sem,c5,b9];refine bL (Hv 0 ⟨ag,ag⟩) bU ?_;simp only[go_sem,c5,b9];refine bL (apL q) bU ?_;simp only[go_sem,wg,b9,k7];refine bL (fun H _=>Gc 0 H) bU ?_;simp only[go_sem];exact bZ bU rfl (.az (.cons (FU q) (.cons (.bool _) .nil)))
theorem ap1(q:Rat):c4 392 [wg q] (ah q.num.sign):=by
 refine dm (.cons (FU q) .nil) (cV Tryz.f392 (h:=?_));simp only[go_sem,wg,b9,k7];refine bL (fun H _=>Ho q H) bU ?_;simp only[go_sem];refine bL aoE bU ?_;simp only[go_sem];exact bZ bU rfl (.int _ _)
theorem aqK(q:Rat)(a:a_ 100 q):c4 369 [tc (bh q)] (.az [ah q.num.sign,ah 0]):=by
 refine dm (.cons (.agg (.cons (.str _) (.cons (.str _) (.cons (.int _ _) .nil)))) .nil) (cV Tryz.f369 (h:=?_));simp only[go_sem,tc];refine bL (ao3 q a) bU ?_;simp only[go_sem,wg,b9,k7];refine bL (ap1 q) bU ?_;simp only[go_sem];exact bZ bU rfl (.az (.cons (.int _ _) (.cons (.int _ _) .nil)))
theorem eF.gt{B:Nat}(h:eF B c H)(g:GT c)(a:5≤B:=by(decide)):GT H:=g.keep fun y b=>h.1 y aa
theorem kb{B:Nat}(h:eF B c H:=by repeat (first|assumption|refine eF.push ?_ _|refine eF.set ?_ (by first|exact nleb rfl|omega|(simp only[go_sem];omega)) _)):eF B c H:=h
theorem b8(b:a<h):(a=h)=False∧(h=a)=False:=⟨eq_false aa,eq_false aa⟩
structure m7 where
 w:Nat
 r:List ax
def k5(n:Nat)(s:m7):List V:=.str (bh (s.w:Rat)):: .str [48]::ah 1::iR n s.r
theorem yh(n:Nat)(s:m7):(k5 n s).length=7:=rfl
theorem BD(n:Nat)(s:m7):bY (k5 n s):=.cons (.str _) (.cons (.str _) (.cons (.int _ _) (vp n s.r)))
structure m7.aA (n:Nat) (s:m7):Prop where
 w:s.w≤4
 r:jo n s.r
theorem iM{l:List f}(b:h<l.length):∃a,a∈l∧l[h]? =some a:=⟨l[h],wI b,cn b⟩
theorem Hl(h:a≤4):a_ 100 (a:Rat):=QD (z:=a) (by have:a<2^100:=eY h ag;omega) ag
theorem anz(n:Nat)(l:List m7)(hl:l.length≤1000)(k:∀s∈l,s.aA n):c4 321 [b4 (k5 n) l] bO:=by
 refine dm (.cons (iN (BD n) l) .nil) (cV Tryz.f321 (h:=?_));simp only[go_sem];refine each l.length [0,7,8] 5 (fun _ _ _=>True) ?_ ?_ aa ag (aE 5) (fun _ _ _ _ _ _ h=>h) trivial ?_ ?_
 iterate 2 simp only[go_sem]
 ·intro m c d i b hh hi _;obtain⟨a,f,e⟩:=iM i;have j:=ia (yh n) e;have g:=hh.gt fB;have p:=hh.2;simp only[go_sem]at b;simp(disch:=omega)only[go_sem,b,hi,ff,j,k5,iR,cj];refine bL (aqK _ (Hl (k a f).w)) bU ?_;have o:((a.w:Rat).num.sign<0)=False:=eq_false (by rw[Rat.num_natCast];cases a.w;decide;exact(by decide:¬(1:Int)<0));simp only[go_sem,b,hi,o];exact kb
 ·intro c d b hh _;simp only[go_sem];exact bZ (hh.gt fB) rfl (.bool _)
structure qf where
 is:List Nat
 iG:List m7
def n4(n:Nat)(p:qf):List V:=[b6 p.is,b4 (k5 n) p.iG]
theorem Hg(n:Nat)(p:qf):(n4 n p).length=2:=rfl
theorem FQ(n:Nat)(p:qf):bY (n4 n p):=.cons (oy p.is) (.cons (iN (BD n) p.iG) .nil)
structure qf.aA (n k:Nat) (p:qf):Prop where
 is:p.is.Pairwise (·< ·)
 ik:∀x∈p.is,x<k
 li:p.is.length≤1000
 iG:∀s∈p.iG,s.aA n
 ls:p.iG.length≤2
theorem arA(n:Nat)(M:n=1∨n=2)(k:Nat)(o:List ax)(j s:List (List ax))(c:j.length=k)(t:qf)(d:t.aA n k)(f:k≤1000):c4 265 [lN n o j s,ah 1,.agg (n4 n t)] bO:=by
 have L:n≤6:=aa;refine dm (.cons (vm _ M _ _ _) (.cons (.int _ _) (.cons (.agg (FQ _ t)) .nil))) (cV Tryz.f265 (h:=?_));simp only[go_sem,lN,ig,n4];have S:=d.li
 have p:∀b:af,eF 7 ((cZ.push (.cells [eV n,ah n,eN o,cA n j,cA n s] 0)).push (.cells (n4 n t) 0)) b→GT b∧b.get 5=.cells [eV n,ah n,eN o,cA n j,cA n s] 0∧b.get 6=.cells (n4 n t) 0:=fun b hh=>
  ⟨hh.gt bU,by rw[hh.1 5 ag];simp only[go_sem],by rw[hh.1 6 ag];simp only[go_sem]⟩
 refine each t.is.length [1,3,5,13,14] 7 (fun m F _=>rd 7 F=ah (if m=0 then-1 else(t.is.getD (m-1) 0:Int))) ?_ ?_ aa ag (by simp only[go_sem];omega) ?_ ?_ ?_ ?_
 iterate 2 simp only[go_sem,b6]
 ·intro m F H t v h e;rw[qK aa];exact e
 ·simp only[go_sem]
 ·intro m C b i c hh hi A;simp only[go_sem]at c;obtain⟨g,y,u⟩:=p b hh;obtain⟨x,B⟩:∃x,t.is.getD m 0=x:=⟨_,rfl⟩;have w:t.is[m]? =some x:=by rw[←B,bX,cn i];rfl
  have E:((if m=0 then-1 else(t.is.getD (m-1) 0:Int))<(x:Int))=True:=eq_true (by
   by_cases z:m=0
   ·rw[ak z];omega
   ·rw[aj z];have O:=List.pairwise_iff_getElem.1 d.is (m-1) m aa i aa;rw[bX,cn (by omega:m-1<t.is.length)];rw[cn i]at w;cases w;exact m0.2 O)
  have G:((x:Int)<(j.length:Int))=True:=eq_true (by have:=d.ik x (eT w);omega);simp(disch:=omega)only[go_sem,c,hi,A,y,oD,oF,B,E,G,uY,qb];exact kb
 ·intro C b c hh A;simp only[go_sem]at c;obtain⟨g,y,u⟩:=p b hh;have cm:((256:Int)<(t.iG.length:Int))=False:=eq_false (by have:=d.ls;omega);simp only[go_sem,c,u,n4,cm];refine bL (anz n t.iG (by have:=d.ls;omega) d.iG) g ?_;simp only[go_sem,u,c,n4];refine each t.iG.length [1,3,5,42,43] 7 (fun _ _ _=>True) ?_ ?_ (by have:=d.ls;omega) ag hh.2 (fun _ _ _ _ _ _ h=>h) trivial ?_ ?_
  iterate 2 simp only[go_sem]
  ·intro m D l i f q hi _;simp only[go_sem,c]at f;obtain⟨Q,I,_⟩:=p l (hh.trans q);obtain⟨a,K,J⟩:=iM i;have P:=ia (yh n) J;have R:=q.2;simp(disch:=omega)only[go_sem,f,hi,ff,P,k5,iR,cj];refine bL (Ss n L a.r (d.iG a K).r) bU ?_;have N:cT (eV n)=some (.val (ah (n:Int))):=rfl;simp only[go_sem,f,I,b8 (aa:5<l.next),N]
   refine bL (OG n a.r) bU ?_;simp only[go_sem,c,f,hi];exact kb
  ·intro D l f q _;simp only[go_sem];exact bZ (p l (hh.trans q)).1 rfl (.bool _)
structure DC (n:Nat) (o:List ax) (is es:List (List ax)):Prop where
 hn:n=1∨n=2
 ho:jo n o
 aiw:∀q∈is,jo n q
 aip:∀q∈es,jo n q
 li:is.length≤16
 le:es.length≤16
theorem GY(n:Nat)(i:n=1∨n=2)(o:List ax)(f b:List (List ax))(q:List ax)(e:jo n q)(H:af)(g:6≤H.next)(c:H.get 5=.cells (ig n o f b) 0)(h:GT H):
 c7 114 [gX n q,.ptr 5 0] H fun v a=>v=bO∧a=H.push (.cells (cj n q) 0):=by
 refine cV Tryz.f114 (h:=?_);simp only[go_sem,gX,cj];refine bL (z2 n aa q e) bU ?_;have d:cT (eV n)=some (.val (ah (n:Int))):=rfl;simp only[go_sem,b8 (aa:5<H.next),c,ig,d]
theorem arD{d:List (List ax)}(b:DC h l K d):c4 60 [lN h l K d] bO:=by
 have k:=b.hn;have J:=b.li;have I:=b.le;refine dm (.cons (vm _ k _ _ _) .nil) (cV Tryz.f60 (h:=?_));have o:∀c:af,eF 6 (cZ.push (.cells (ig h l K d) 0)) c→GT c∧c.get 5=.cells (ig h l K d) 0:=fun c hh=>⟨hh.gt bU,by rw[hh.1 5 ag];simp only[go_sem]⟩
 have H:Cb 114 0 [.ptr 5 0]=some (.val (.func 114 [] [.ptr 5 0])):=rfl;have w:∀x:V,ru [.func 114 [] [.ptr 5 0],x]=some (.fn 114,[x,.ptr 5 0]):=fun _=>rfl
 have E:((16:Int)<(K.length:Int))=False:=eq_false aa;have F:((16:Int)<(d.length:Int))=False:=eq_false aa;simp only[go_sem,lN,ig];refine use (Sw h k) ?_;simp only[go_sem,E,F,H];refine each K.length [1,3,26,27] 6 (fun _ _ _=>True) ?_ ?_ aa ag (aE 6) (fun _ _ _ _ _ _ b=>b) trivial ?_ ?_
 iterate 2 simp only[go_sem]
 ·intro m B c y e hh hi _;simp only[go_sem]at e;obtain⟨g,q⟩:=o c hh;obtain⟨a,u,t⟩:=iM y;have z:=uO (n:=h) t;have r:=hh.2;simp(disch:=omega)only[go_sem,e,hi,uc,z,cj,w];refine(GY h k l K d a (b.aiw a u) _ (by simp only[go_sem];omega) (by simp only[go_sem,b8 (aa:5<c.next),q]) bU).mono fun v i ⟨n,G⟩=>?_
  subst n G;simp only[go_sem,e,hi];exact kb
 ·intro B c e hh _;simp only[go_sem]at e;obtain⟨g,q⟩:=o c hh;simp only[go_sem,e,q,ig];refine each d.length [1,3,38,39] 6 (fun _ _ _=>True) ?_ ?_ aa ag hh.2 (fun _ _ _ _ _ _ b=>b) trivial ?_ ?_
  iterate 2 simp only[go_sem]
  ·intro m C i y f j hi _;simp only[go_sem,e]at f;obtain⟨A,p⟩:=o i (hh.trans j);obtain⟨a,u,t⟩:=iM y;have z:=uO (n:=h) t;have r:=j.2;simp(disch:=omega)only[go_sem,f,hi,uc,z,cj,w];refine(GY h k l K d a (b.aip a u) _ (by simp only[go_sem];omega) (by simp only[go_sem,b8 (aa:5<i.next),p]) bU).mono fun v D ⟨n,s⟩=>?_
   subst n s;simp only[go_sem,e,f,hi];exact kb
  ·intro C i f j _;simp only[go_sem,e]at f;obtain⟨A,p⟩:=o i (hh.trans j);have r:=j.2;simp only[go_sem,f,p,ig,w];refine(GY h k l K d l b.ho _ r p A).mono fun v D ⟨n,s⟩=>?_
   subst n s;simp only[go_sem];exact bZ bU rfl (.bool _)
theorem aoJ:c4 264 [ah 1] bO:=by
 refine dm (.cons (.int _ _) .nil) (cV Tryz.f264 (h:=?_));simp only[go_sem];exact bZ bU rfl (.bool _)
@[go_sem]theorem xJ(a:f→List V)(l:List f):bg (b4 a l)=true∧cellsOf (b4 a l)=[b4 a l]∧V.one (b4 a l)=true:=⟨rfl,rfl,rfl⟩
structure oR where
 ps:List qf
 ms:List (List ax)
def jJ(n:Nat)(c:oR):List V:=[ah 1,b4 (n4 n) c.ps,b4 (iR n) c.ms]
theorem BA(n:Nat)(c:oR):bY (jJ n c):=.cons (.int _ _) (.cons (iN (FQ n) c.ps) (.cons (iN (vp n) c.ms) .nil))
theorem yo(n:Nat)(p:List ax):(iR n p).length=4:=rfl
structure oR.aA (n k e:Nat) (c:oR):Prop where
 ps:∀p∈c.ps,p.aA n k
 Gx:c.ps.length≤2
 ms:∀p∈c.ms,jo n p
 lm:c.ms.length=e
theorem ary{f:List (List ax)}(d:DC h l K f)(c:oR)(n:c.aA h K.length f.length):c4 199 [lN h l K f,.agg (jJ h c)] bO:=by
 have v:=d.hn;have G:=d.li;have F:=d.le;have I:=n.Gx;have H:=n.lm;refine dm (.cons (vm _ v _ _ _) (.cons (.agg (BA _ c)) .nil)) (cV Tryz.f199 (h:=?_))
 have k:∀b:af,eF 7 ((cZ.push (.cells (ig h l K f) 0)).push (.cells (jJ h c) 0)) b→GT b∧b.get 5=.cells (ig h l K f) 0∧b.get 6=.cells (jJ h c) 0:=fun b hh=>
  ⟨hh.gt bU,by rw[hh.1 5 ag];simp only[go_sem],by rw[hh.1 6 ag];simp only[go_sem]⟩
 have y:((64:Int)<(c.ps.length:Int))=False:=eq_false aa;have z:((c.ms.length:Int)=(f.length:Int))=True:=eq_true aa;have D:cT (eV h)=some (.val (ah (h:Int))):=rfl;simp only[go_sem,lN,ig,jJ];refine bL (arD d) bU ?_;simp only[go_sem];refine bL aoJ bU ?_;simp only[go_sem,y,z];refine each c.ps.length [2,3,32,33] 7 (fun _ _ _=>True) ?_ ?_ aa ag (aE 7) (fun _ _ _ _ _ _ d=>d) trivial ?_ ?_
 iterate 2 simp only[go_sem]
 ·intro m w b s e hh hi _;simp only[go_sem]at e;obtain⟨g,u,p⟩:=k b hh;obtain⟨a,r,q⟩:=iM s;have t:=ia (Hg h) q;have C:=hh.2;simp(disch:=omega)only[go_sem,e,hi,ff,t,n4,u,p,ig,jJ,b8 (aa:5<b.next),b8 (aa:6<b.next)]
  refine bL (arA h v _ l K f rfl a (n.ps a r) aa) bU ?_;simp only[go_sem,e,hi];exact kb
 ·intro w b e hh _;simp only[go_sem]at e;obtain⟨g,u,p⟩:=k b hh;simp only[go_sem,e,p,jJ];refine each c.ms.length [2,3,46,47] 7 (fun _ _ _=>True) ?_ ?_ aa ag hh.2 (fun _ _ _ _ _ _ d=>d) trivial ?_ ?_
  iterate 2 simp only[go_sem]
  ·intro m x i s j o hi _;simp only[go_sem,e]at j;obtain⟨E,A,B⟩:=k i (hh.trans o);obtain⟨a,r,q⟩:=iM s;have t:=ia (yo h) q;have C:=o.2;simp(disch:=omega)only[go_sem,j,hi,ff,t,iR,cj,B,jJ,b8 (aa:6<i.next)]
   refine bL (Ss h aa a (n.ms a r)) bU ?_;simp only[go_sem,j,A,ig,D,b8 (aa:5<i.next)]
   refine bL (OG h a) bU ?_;simp only[go_sem,e,j,hi];exact kb
  ·intro x i j o _;simp only[go_sem];exact bZ (k i (hh.trans o)).1 rfl (.bool _)
inductive r9 where
 |vT
 |AU (k:Int)
 |cert (low:Bool) (c:oR)
inductive tK where
 |split (v:Nat) (a:Rat) (l r:Nat)
 |leaf (f:r9)
def dy(n:Nat):tK→List V
 |.split v a l r=>[.int .i64 1,.int .i64 (v:Int),.str (bh a),.int .i64 (l:Int),.int .i64 (r:Int),.int .i64 0,.an,.an,.int .i64 0]
 |.leaf .vT=>[.int .i64 5,.int .i64 0,.str [],.int .i64 0,.int .i64 0,.int .i64 0,.an,.an,.int .i64 0]
 |.leaf (.AU k)=>[.int .i64 4,.int .i64 0,.str [],.int .i64 0,.int .i64 0,.int .i64 0,.an,.an,.int .i64 k]
 |.leaf (.cert b c)=>[.int .i64 (bif b then 2 else 3),.int .i64 0,.str [],.int .i64 0,.int .i64 0,.int .i64 1,b4 (n4 n) c.ps,b4 (iR n) c.ms,.int .i64 0]
theorem sY(n:Nat)(x:tK):(dy n x).length=9:=by
 rcases x with _|(_|_|_)<;>rfl
theorem oz(n:Nat)(x:tK):bY (dy n x):=by
 rcases x with _|(_|_|_)<;>(unfold dy;repeat' (first|exact iN (FQ n) _|exact iN (vp n) _|constructor))
theorem oN(q:Rat):(bh q=[])=False:=eq_false fun h=>by have e:=pF q;rw[h]at e;cases e
theorem Qh(n:Nat)(x:tK):c4 137 [.agg (dy n x)] bO:=by
 refine dm (.cons (.agg (oz n x)) .nil) (cV Tryz.f137 (h:=?_));rcases x with⟨v,a,l,r⟩|(_|_|⟨b,c⟩)
 ·by_cases h:(v:Int)=0
  ·simp only[go_sem,dy,h,J5,oN];exact bZ bU rfl (.bool _)
  ·simp only[go_sem,dy,h];exact bZ bU rfl (.bool _)
 ·simp only[go_sem,dy];exact bZ bU rfl (.bool _)
 ·simp only[go_sem,dy];exact bZ bU rfl (.bool _)
 ·cases b<;>(simp only[go_sem,dy,cond_true,cond_false];exact bZ bU rfl (.bool _))
theorem Rx{a:Rat}(h:z<a):fL (a-z)=1:=by
 have c:0≤(a-z).num:=Rat.num_nonneg.2 (by grind);have b:(a-z).num≠0:=fun e=>by have:=Rat.num_eq_zero.1 e;grind
 unfold fL;rw[aj aa,aj b]
theorem CM{a:Rat}(h:a<z):fL (a-z)= -1:=by
 have b:¬0≤(a-z).num:=fun e=>by have:=Rat.num_nonneg.1 e;grind
 unfold fL;rw[ak aa]
def qk(a:Rat)(s:cc):Prop:=(s.hl=true→s.lo<a)∧(s.hh=true→a<s.hi)
theorem TA(a:Rat)(s:cc)(g:a_ 300 a)(k:iK 300 s)(j:qk a s)(hl:(bh a).length≤500∧(bh s.lo).length≤500∧(bh s.hi).length≤500):c4 93 [.str (bh a),.agg (cw (eE s))] bO:=by
 obtain⟨lo,hi,l,h⟩:=s;obtain⟨m,n⟩:=k;obtain⟨i,c⟩:=j;have v:=yD (bh a) hl.1;have d:=w9 (bh a) (bh lo) hl.1 hl.2.1 (a:=300) (b:=300) (by rw[l7];exact g) (by rw[l7];exact m) ag;have b:=w9 (bh a) (bh hi) hl.1 hl.2.2 (a:=300) (b:=300) (by rw[l7];exact g) (by rw[l7];exact n) ag;rw[pF,Option.isSome_some]at v;rw[l7,l7]at d b;refine dm (.cons (.str _) (.cons (.agg (sH _)) .nil)) (cV Tryz.f93 (h:=?_));simp only[go_sem,cw,eE];refine bL v bU ?_;cases l
 ·cases h
  ·simp only[go_sem,if_false,ie];exact bZ bU rfl (.bool _)
  ·have e:=CM (c rfl);simp only[go_sem,if_false,ie,oN];refine bL b bU ?_;simp only[go_sem,e];exact bZ bU rfl (.bool _)
 ·have f:=Rx (i rfl);simp only[go_sem,if_false,ie,oN];refine bL d bU ?_;cases h
  ·simp only[go_sem,if_false,ie,f];exact bZ bU rfl (.bool _)
  ·have e:=CM (c rfl);simp only[go_sem,if_false,ie,oN,f];refine bL b bU ?_;simp only[go_sem,e];exact bZ bU rfl (.bool _)
theorem apv(c:0<h):ox false (.slice a) [.row h b,.an]=some (.val aD):=by
 obtain⟨m,rfl⟩:∃m,h=m+1:=⟨h-1,aa⟩;rfl
theorem fS{a:Nat}(b:a≠h):(a=h)=False:=eq_false b
theorem Uy(l:List dH)(h:0<l.length∧l.length≤1000)(H:af):c7 198 [b4 cw l] H fun v a=>v=.slice (H.next+1) 0 l.length (.grown 2)∧a=((H.push (.cells [] 0)).push (.cells (bC cw l) (H.next+2))).push (.bB (H.next+1) (H.next+1)):=by
 refine cV Tryz.f198 (h:=?_);simp only[go_sem,b4,apv h.1];refine Bu (by simp only[go_sem]) h.1 (hG cw nE l) ⟨aa,ag⟩ ?_;simp only[go_sem]
theorem El(l:List dH)(h:0<l.length∧l.length≤1000)(H:af):c7 136 [ij l] H fun v a=>∃b,H.next≤b∧b+1<a.next∧v=.agg [.slice b 0 l.length (.grown 2)]∧cI a b (b+1) (bC cw l)∧∀y,y<H.next→a.get y=H.get y:=by
 refine cV Tryz.f136 (h:=?_);simp only[go_sem,ij,b8 (aa:H.next<H.next+1)]
 refine(Uy l h _).mono fun v a ⟨c,d⟩=>?_
 subst c d;simp(disch:=omega)only[go_sem,fS];refine⟨H.next+3,aa,aa,rfl,⟨?_,⟨H.next+3,?_,aE _⟩,uY _⟩,fun y e=>?_⟩
 ·simp(disch:=omega)only[go_sem,fS]
 ·simp(disch:=omega)only[go_sem,fS]
 ·simp(disch:=omega)only[go_sem,fS]
theorem Gu{d:f→List V}(g:∀a,(d a).length=h)(j:0<h){m:List f}(k:m.length=L)(e:cI c u (u+1) (bC d m))(i:GT c)(t:u+1<c.next):bR c (cZ.mz c.next) (.slice u 0 L (.grown h)) (b4 d m):=by
 subst k;obtain⟨r,l,n⟩:=e.bB;refine oB g j (.cells e.row l n e.ne (hG d g m) aa aa) (cD.refl _) (fun y s b=>?_) (hG d g m);rw[af.qv,kD];by_cases o:y=0
 ·subst o;rw[i.mQ]at b;exact absurd (cP.cells.inj b).2 aa
 by_cases p:y=1
 ·subst p;rw[i.nC]at b;exact absurd (cP.cells.inj b).2 aa
 by_cases q:y=4
 ·subst q;rw[i.qR]at b;exact absurd (cP.cells.inj b).2 aa
 rw[aj aa,aj aa,aj aa]
theorem UT(l:List dH)(h:0<l.length∧l.length≤1000):c4 136 [ij l] (ij l):=by
 refine dm (.cons (pe l) .nil) ((El l h cZ).mono fun v a ⟨b,i,f,c,d,e⟩=>?_);subst c;have g:GT a:=fB.keep e;exact⟨g,_,.agg (.cons (Gu nE ag rfl d g f) .nil),pe l,rfl⟩
theorem HF{f:dH→List V}(c:∀a,(f a).length=2):∀(l:List dH) (i:Nat) (o:Nat) (v:V) (b:dH),o<2→(∀a,l[i]? =some a→(f a).set o v=f b)→i<l.length→(bC f l).set (i*2+o) v=bC f (l.set i b)
 |[],i,_,_,_,_,_,h=>(ke i h).elim
 |a::l,0,o,v,b,e,d,_=>by
  rw[jb,dK,bC,List.set_append_left _ _ (by rw[c];exact e),d a rfl];rfl
 |a::l,i+1,o,v,b,e,d,h=>by
  rw[bC,List.set_append_right _ _ (by rw[c];omega),c,(aa:(i+1)*2+o-2=i*2+o),HF c l i o v b e d (Nat.lt_of_succ_lt_succ h)];rfl
def pq(l:List dH)(i:Nat)(a:List UInt8):List dH×List dH:=(l.set i ((l.getD i ([],[])).1,a),l.set i (a,(l.getD i ([],[])).2))
theorem aih(l:List dH)(h:0<l.length∧l.length≤1000)(i:Nat)(hi:i<l.length)(a:List UInt8):c4 139 [ij l,ah (i:Int),.str a] (.az [ij (pq l i a).1,ij (pq l i a).2]):=by
 refine dm (.cons (pe l) (.cons (.int _ _) (.cons (.str _) .nil))) (cV Tryz.f139 (h:=?_));simp only[go_sem,ij];refine(El l h _).mono fun v1 G ⟨b,p1,p2,H,K,k⟩=>?_
 subst H;have q1:10≤b:=p1;have u:=k 5 (mh rfl);have d6:=k 6 (mh rfl);have d7:=k 7 (mh rfl);have d8:=k 8 (mh rfl);have d9:=k 9 (mh rfl);simp only[go_sem]at u d6 d7 d8 d9;simp only[go_sem,u];refine(El l h _).mono fun v2 e ⟨d,r1,r2,I,L,j⟩=>?_
 subst I;have am:10≤G.next:=aa
 have P:e.get 8=.cells [.an] 0:=by rw[j 8 aa];exact d8
 have Q:e.get 9=.cells [.an] 0:=by rw[j 9 aa];exact d9
 have N:e.get 6=.cells [.an] 0:=by rw[j 6 aa];exact d6
 have O:e.get 7=.cells [.an] 0:=by rw[j 7 aa];exact d7
 simp only[go_sem,P,Q];obtain⟨c,g⟩:∃c,c=(e.set 8 (.cells [.slice b 0 l.length (.grown 2)] 0)).set 9 (.cells [.slice d 0 l.length (.grown 2)] 0):=⟨_,rfl⟩;rw[←g];have p:∀y,10≤y→c.get y=e.get y:=fun y o=>by rw[g];simp(disch:=omega)only[go_sem,fS]
 have A:cI c b (b+1) (bC cw l):=(K.keep (j _ aa) (j _ aa)).keep (p _ aa) (p _ aa);have W:cI c d (d+1) (bC cw l):=L.keep (p _ aa) (p _ aa);have w:c.get 8=.cells [.slice b 0 l.length (.grown 2)] 0:=by rw[g];simp only[go_sem]
 have z:c.get 9=.cells [.slice d 0 l.length (.grown 2)] 0:=by rw[g];simp only[go_sem]
 have T:c.get 6=.cells [.an] 0:=by rw[g];simp only[go_sem,N]
 have U:c.get 7=.cells [.an] 0:=by rw[g];simp only[go_sem,O]
 have S:i*2+1<(bC cw l).length:=by rw[hG cw nE];omega
 have s1:=HX (v:=.str a) A S ⟨rfl,rfl,rfl⟩;have B:=W.other (cs':=(bC cw l).set (i*2+1) (.str a)) (b':=b) (g':=b+1) aa aa aa aa;have s2:=HX (o:=i*2) (v:=.str a) B aa ⟨rfl,rfl,rfl⟩;have V:(af.wr c b (b+1) ((bC cw l).set (i*2+1) (.str a))).get 9=.cells [.slice d 0 l.length (.grown 2)] 0:=by rw[nU aa aa];exact z
 have R:(0:Int)≤(i:Int)∧(i:Int)<((l.length:Nat):Int):=aa;simp only[go_sem,w,b3 R,s1,V,s2];have s:=B.written (((bC cw l).set (i*2) (.str a)));have t:=((A.written ((bC cw l).set (i*2+1) (.str a)))).other (cs':=(bC cw l).set (i*2) (.str a)) (b':=d) (g':=d+1) aa aa aa aa;have Z:c.next=e.next:=by rw[g];rfl
 have n:∀y,y<10→(af.wr (af.wr c b (b+1) ((bC cw l).set (i*2+1) (.str a))) d (d+1) ((bC cw l).set (i*2) (.str a))).get y=c.get y:=fun y o=>by rw[nU aa aa,nU aa aa]
 have E:=(n 8 ag).trans w;have F:=(n 9 ag).trans z;have C:=(n 6 ag).trans T;have D:=(n 7 ag).trans U;have J:GT c:=by
  refine fB.keep fun y o=>?_
  rw[g];simp(disch:=omega)only[go_sem,fS];rw[j y aa,k y (eG o (mh rfl))];simp(disch:=omega)only[go_sem,fS]
 obtain⟨f,q⟩:∃f,f=af.wr (af.wr c b (b+1) ((bC cw l).set (i*2+1) (.str a))) d (d+1) ((bC cw l).set (i*2) (.str a)):=⟨_,rfl⟩;have ap:f.next=e.next:=by rw[q];exact Z
 have M:GT f:=J.keep fun y o=>by rw[q];exact n y aa
 rw[←q]at E F C D s t⊢;simp only[go_sem,E,F,C,D];have v:∀x,l[i]? =some x→l.getD i ([],[])=x:=fun x m=>by rw[bX,m];rfl
 have ac:(bC cw l).set (i*2+1) (.str a)=bC cw (pq l i a).1:=HF nE l i 1 _ _ ag (fun x m=>by rw[v x m];rfl) hi;have ad:(bC cw l).set (i*2) (.str a)=bC cw (pq l i a).2:=HF nE l i 0 _ _ ag (fun x m=>by rw[v x m];rfl) hi;rw[ac]at t;rw[ad]at s;have X:=(s.keep (H':=(f.set 6 (.cells [.slice b 0 l.length (.grown 2)] 0)).set 7 (.cells [.slice d 0 l.length (.grown 2)] 0)) (by simp(disch:=omega)only[go_sem,fS]) (by simp(disch:=omega)only[go_sem,fS]));have Y:=(t.keep (H':=(f.set 6 (.cells [.slice b 0 l.length (.grown 2)] 0)).set 7 (.cells [.slice d 0 l.length (.grown 2)] 0)) (by simp(disch:=omega)only[go_sem,fS]) (by simp(disch:=omega)only[go_sem,fS]));have r:=(M.set (ag:5≤6) (.cells [.slice b 0 l.length (.grown 2)] 0)).set (ag:5≤7) (.cells [.slice d 0 l.length (.grown 2)] 0);exact⟨r,_,.az (.cons (.agg (.cons (Gu nE ag (by simp[pq]) Y r (by show b+1<f.next;omega)) .nil)) (.cons (.agg (.cons (Gu nE ag (by simp[pq]) X r (by show d+1<f.next;omega)) .nil)) .nil)),.az (.cons (pe _) (.cons (pe _) .nil)),rfl⟩
def r_(p:fz)(bs:List dH):r9→Prop
 |.vT=>True
 |.AU k=> -1≤k∧k<((p.is.length+p.es.length:Nat):Int)∧bs.all ot=true
 |.cert _ c=>c.aA p.n (p.is++h_ p.n 0 bs).length p.es.length
theorem apb(p:fz)(h:p.aA)(bs:List dH)(c:bs.length=p.n)(b:∀s∈bs,k3 s.1∧k3 s.2):DC p.n p.obj (p.is++h_ p.n 0 bs) p.es:=by
 have a:=h.n;have e:=h.li;have d:=h.le;have f:=x3 p.n 0 bs;refine⟨a,rN a ag h.obj,fun q hq=>?_,fun q hq=>rN a ag (h.es q hq),by rw[aS];omega,aa⟩;rcases gI.1 hq with hq|hq
 ·exact rN a ag (h.is q hq)
 ·exact HD p.n a 0 bs aa b q hq
theorem arz(p:fz)(h:p.aA)(bs:List dH)(a:bs.length=p.n)(e:∀s∈bs,k3 s.1∧k3 s.2)(f:r9)(d:r_ p bs f):c4 138 [js p,ij bs,.agg (dy p.n (.leaf f))] bO:=by
 have o:=h.n;refine dm (.cons (sG p o) (.cons (pe bs) (.cons (.agg (oz _ _)) .nil))) (cV Tryz.f138 (h:=?_));rcases f with _|k|⟨b,c⟩
 ·simp only[go_sem,js,ij,dy];exact bZ bU rfl (.bool _)
 ·obtain⟨t,l,m⟩:=d;have v:=h.li;have u:=h.le;have g:(k< -1)=False:=eq_false aa;have i:aC .i64 ((p.is.length:Int)+(p.es.length:Int))=((p.is.length+p.es.length:Nat):Int):=by rw[aH _ aa];omega
  have j:(k<((p.is.length+p.es.length:Nat):Int))=True:=eq_true l;simp only[go_sem,js,ij,dy,g,i,j];refine bL (fun H _=>TM bs aa H) bU ?_;simp only[go_sem,m];exact bZ bU rfl (.bool _)
 ·have q:=apa p h bs a e;have r:=ary (apb p h bs a e) c d;cases b<;>
  ·simp only[go_sem,js,ij,dy,cond_true,cond_false];refine bL q bU ?_;simp only[go_sem,lN,ig];refine bL r bU ?_;simp only[go_sem];exact bZ bU rfl (.bool _)
def gR:cc:=⟨0,0,false,false⟩
def pB(l:List cc)(i:Nat)(a:Rat):List cc:=l.set i ⟨(l.getD i gR).lo,a,(l.getD i gR).hl,true⟩
def pL(l:List cc)(i:Nat)(a:Rat):List cc:=l.set i ⟨a,(l.getD i gR).hi,true,(l.getD i gR).hh⟩
structure aO where
 s:Nat
 v:Nat→Nat
 a:Nat→Rat
 fI:Nat→r9
 bs:Nat→List cc
def aO.c9(t:aO)(n:Nat):List dH:=(t.bs n).map eE
def aO.nd(t:aO)(n:Nat):tK:=if n<t.s then .split (t.v n) (t.a n) (2*n+1) (2*n+2)else .leaf (t.fI n)
def aO.gf(t:aO):List tK:=(oW (2*t.s+1)).map t.nd
structure aO.aA (t:aO) (p:fz):Prop where
 s:t.s≤3
 len:∀n,n≤2*t.s→(t.bs n).length=p.n
 q:∀n,n≤2*t.s→∀x∈t.bs n,iK 81 x
 v:∀n,n<t.s→t.v n<p.n
 wV:∀n,n<t.s→a_ 81 (t.a n)
 c9:∀n,n<t.s→qk (t.a n) ((t.bs n).getD (t.v n) gR)
 l:∀n,n<t.s→t.bs (2*n+1)=pB (t.bs n) (t.v n) (t.a n)
 r:∀n,n<t.s→t.bs (2*n+2)=pL (t.bs n) (t.v n) (t.a n)
 fI:∀n,t.s≤n→n≤2*t.s→r_ p (t.c9 n) (t.fI n)
 rt:∀x∈t.bs 0,iK 9 x∧(x.hl=true→x.hh=true→x.lo<x.hi)
def eL(t:aO)(n:Nat)(b:Rat):List V:=[b4 cw (t.c9 0),.str (bh b),b4 (dy n) t.gf]
theorem ar5(l:List cc)(i:Nat)(a:Rat)(hi:i<l.length):(pB l i a).map eE=(pq (l.map eE) i (bh a)).1:=by
 unfold pB pq;rw[List.map_set,bX,bX,iy,cn hi];rfl
theorem ar7(l:List cc)(i:Nat)(a:Rat)(hi:i<l.length):(pL l i a).map eE=(pq (l.map eE) i (bh a)).2:=by
 unfold pL pq;rw[List.map_set,bX,bX,iy,cn hi];rfl
def kB(t:aO)(a:Nat):Nat→Nat→List V
 |0,_=>[]
 |k+1,j=>(if j≤a then b4 cw (t.c9 j)else .an)::kB t a k (j+1)
def jz(a:Nat):Nat→Nat→List V
 |0,_=>[]
 |k+1,j=>.bool (decide (j≤a))::jz a k (j+1)
theorem pU(b:a_ a z)(c:a≤81):(bh z).length≤500:=by have:=C8 (b.mono aa);omega
theorem anR{x:cc}(h:iK 81 x):k3 (eE x).1∧k3 (eE x).2:=by
 have b:∀q:Rat,a_ 81 q→k3 (bh q):=fun q a=>.inr ⟨by rw[pF,l7],by rw[l7];exact a,pU a ag⟩
 show k3 (if x.hl=true then _ else _)∧k3 (if x.hh=true then _ else _);exact⟨by split;exact b _ h.1;exact .inl rfl,by split;exact b _ h.2;exact .inl rfl⟩
theorem arv{x:cc}(h:x.hl=true→x.hh=true→x.lo<x.hi):lG (eE x)=true:=by
 have b:∀q:Rat,nv (bh q)=true:=fun q=>by unfold nv;rw[pF];simp
 have a:nv []=true:=rfl;obtain⟨lo,hi,l,u⟩:=x;unfold lG eE;cases l<;>cases u<;>simp[b,a,oN,l7];have:=CM (h rfl rfl);simp only at this;omega
theorem Sn(n:Nat)(l:List cc)(hl:l.length=n)(h:∀x∈l,x.hl=true→x.hh=true→x.lo<x.hi):th n (l.map eE)=true:=by
 unfold th;rw[cu,sg];refine⟨by rw[g5,hl];simp,fun s a=>?_⟩;obtain⟨x,b,rfl⟩:=k_.1 a;exact arv (h x b)
def w5(l:List dH):List V:=[b4 cw l]
theorem lD(t:aO):t.gf.length=2*t.s+1:=by simp[aO.gf]
theorem Rb(t:aO):∀n j,rep [V.an] n=kB t 0 n (j+1)
 |0,_=>rfl
 |n+1,j=>by rw[z7,Rb t n (j+1),kB,aj aa];rfl
theorem Hw:∀n j,rep [V.bool false] n=jz 0 n (j+1)
 |0,_=>rfl
 |n+1,j=>by rw[z7,Hw n (j+1),jz,aZ aa];rfl
theorem AW(t:aO)(a:Nat):∀k j,(kB t a k j).length=k
 |0,_=>rfl
 |k+1,j=>by rw[kB,cL,AW]
theorem y7(t:aO)(a:Nat):∀k j i,(kB t a k j)[i]? =if i<k then some (if j+i≤a then b4 cw (t.c9 (j+i))else .an)else none
 |0,_,_=>by rw[kB,aj aa];rfl
 |k+1,j,0=>by rw[ak (lf k)];rfl
 |k+1,j,i+1=>by
  rw[kB,List.getElem?_cons_succ,y7 t a k (j+1) i,(aa:j+1+i=j+(i+1))];simp only[Nat.add_lt_add_iff_right]
theorem x1(a:Nat):∀k j,(jz a k j).length=k
 |0,_=>rfl
 |k+1,j=>by rw[jz,cL,x1]
theorem vX(a:Nat):∀k j i,(jz a k j)[i]? =if i<k then some (.bool (decide (j+i≤a)))else none
 |0,_,_=>by rw[jz,aj aa];rfl
 |k+1,j,0=>by rw[ak (lf k)];rfl
 |k+1,j,i+1=>by
  rw[jz,List.getElem?_cons_succ,vX a k (j+1) i,(aa:j+1+i=j+(i+1))];simp only[Nat.add_lt_add_iff_right]
theorem TV(t:aO)(m k:Nat)(h:2*m+2<k):((kB t (2*m) k 0).set (2*m+1) (b4 cw (t.c9 (2*m+1)))).set (2*m+2) (b4 cw (t.c9 (2*m+2)))=kB t (2*(m+1)) k 0:=by
 refine si fun i=>?_
 rw[oU,oU,gT,AW,y7,y7];simp only[dK];by_cases a:i=2*m+2
 ·subst a;rw[ak rfl,ak h,ak h,ak aa]
 ·by_cases b:i=2*m+1
  ·subst b;rw[aj aa,ak rfl,ak aa,ak aa,ak aa]
  ·rw[aj (fun e=>a e.symm),aj (fun e=>b e.symm)];have e:(if i≤2*m then b4 cw (t.c9 i)else V.an)=if i≤2*(m+1)then b4 cw (t.c9 i)else V.an:=by
    by_cases c:i≤2*m
    ·rw[ak c,ak aa]
    ·rw[aj c,aj aa]
   rw[e]
theorem Q0(m k:Nat)(h:2*m+2<k):((jz (2*m) k 0).set (2*m+1) bO).set (2*m+2) bO=jz (2*(m+1)) k 0:=by
 refine si fun i=>?_
 rw[oU,oU,gT,x1,vX,vX];simp only[dK];by_cases a:i=2*m+2
 ·subst a;rw[ak rfl,ak h,ak h,bk aa]
 ·by_cases b:i=2*m+1
  ·subst b;rw[aj aa,ak rfl,ak aa,ak aa,bk aa]
  ·rw[aj (fun e=>a e.symm),aj (fun e=>b e.symm)];rw[show decide (i≤2*m)=decide (i≤2*(m+1))from decide_eq_decide.2 aa]
theorem xP:∀ {a:List V}{i:Nat}{v:V},cK a i=some v→cq (eC a i) 1=some [v]
 |[],0,_,h=>by cases h
 |[],_+1,_,h=>by cases h
 |c::a,0,v,h=>by rw[amb]at h;cases h;rw[c_,PD,zD];rfl
 |c::a,i+1,v,h=>by rw[Pu]at h;rw[Pk];exact xP h
theorem J7(t:aO)(a:Nat):∀k j,j+k≤a+1→kB t a k j=bC w5 ((tE j k).map t.c9)
 |0,_,_=>rfl
 |k+1,j,h=>by rw[kB,ak aa,J7 t a k (j+1) aa];rfl
def aO.wZ(t:aO):List (List dH):=(tE 0 (2*t.s+1)).map t.c9
theorem agH(p:fz)(h:p.aA)(t:aO)(j:t.aA p)(b:Rat)(hb:a_ 81 b):c4 79 [js p,.agg (eL t p.n b)] (.az [b4 w5 t.wZ,bO]):=by
 have hn:=h.n;have hs:=j.s;have l0:(t.c9 0).length=p.n:=by rw[aO.c9,g5];exact j.len 0 aa
 have I:=arx p h (t.c9 0) (fun b0 hs=>by obtain⟨x,E,rfl⟩:=k_.1 hs;exact ar8 (j.rt x E).1) aa;rw[show th p.n (t.c9 0)=true from Sn _ _ (j.len 0 aa) fun x E=>(j.rt x E).2]at I;have hr:=yD (bh b) (pU hb ag);rw[pF,Option.isSome_some]at hr;have c1:((t.gf.length:Int)<1)=False:=eq_false (by rw[lD];omega);have c2:((256:Int)<(t.gf.length:Int))=False:=eq_false (by rw[lD];omega);have cb:=UT (t.c9 0) aa;refine dm (.cons (sG p hn) (.cons (.agg (.cons (iN sH _) (.cons (.str _) (.cons (iN (oz _) _) .nil)))) .nil)) (cV Tryz.f79 (h:=?_));simp only[go_sem,js,eL];refine bL I bU ?_;simp only[go_sem];refine bL hr bU ?_;have m1:∀(k:Nat) (T:List V),k=24∨k=1→mL k T [ah (t.gf.length:Int),ah (t.gf.length:Int)]=some (.new (rep T (2*t.s+1)) (.slice (2*t.s+1) (2*t.s+1))):=fun k T u=>by
  rw[ir ⟨aa,by rw[lD];rcases u with rfl|rfl<;>omega,by rw[lD];omega⟩,bJ,lD]
 simp only[go_sem,c1,c2,m1 24 _ (.inl rfl),m1 1 _ (.inr rfl)];refine bL cb bU ?_;have bi:(0:Int)≤0∧(0:Int)<((2*t.s+1:Nat):Int):=aa;simp only[go_sem,ij,b3 bi,xJ];rw[Rb t _ 0,Hw _ 0,show b4 cw (t.c9 0)::kB t 0 (2*t.s) (0+1)=kB t 0 (2*t.s+1) 0 from(by rw[kB,ak (aE 0)]),show V.bool true::jz 0 (2*t.s) (0+1)=jz 0 (2*t.s+1) 0 from rfl]
 have W:∀d:af,eF 7 ((cZ.push (.cells [eV p.n,ah p.n,eN p.obj,cA p.n p.is,cA p.n p.es] 0)).push (.cells (eL t p.n b) 0)) d→GT d∧d.get 5=.cells [eV p.n,ah p.n,eN p.obj,cA p.n p.is,cA p.n p.es] 0∧d.get 6=.cells (eL t p.n b) 0:=fun d hh=>
  ⟨hh.gt bU,by rw[hh.1 5 ag];simp only[go_sem],by rw[hh.1 6 ag];simp only[go_sem]⟩
 refine each (2*t.s+1) [2,3,6,7,49,50] 7 (fun m _ H=>H.get 7=.cells (kB t (2*min m t.s) (2*t.s+1) 0) 0∧H.get 8=.cells (jz (2*min m t.s) (2*t.s+1) 0) 0∧9≤H.next) ?_ ?_ aa ag ?_ (fun _ _ _ _ _ _ h=>h) ?_ ?_ ?_
 iterate 2 simp only[go_sem,lD]
 ·simp only[go_sem];omega
 ·refine⟨?_,?_,?_⟩
  iterate 2 simp only[go_sem,Nat.zero_min,fc]
  ·simp only[go_sem];omega
 ·intro m ar d F u hh hi ⟨o,w,h9⟩;simp only[go_sem]at u;obtain⟨g,L,S⟩:=W d ⟨fun y J=>(hh.1 y J).trans (by simp(disch:=omega)only[go_sem,fS,eL]),hh.2⟩;have a':t.gf[m]? =some (t.nd m):=by rw[aO.gf,iy,wG F];rfl
  have G:=ia (sY p.n) a';have bj:m<t.gf.length:=by rw[lD];exact F
  by_cases z:m<t.s
  ·rw[m5 (g8 z)]at o w;rw[show t.nd m=.split (t.v m) (t.a m) (2*m+1) (2*m+2)from ak z]at G;have O:=Qh p.n (.split (t.v m) (t.a m) (2*m+1) (2*m+2));have bo:=j.v m z;obtain⟨x,E⟩:∃x,x=(t.bs m).getD (t.v m) gR:=⟨_,rfl⟩;have a7:(t.bs m).length=p.n:=j.len m aa;have ae:(t.bs m)[t.v m]? =some x:=by rw[E,bX,cn aa];rfl
   have M:=j.q m aa x (eT ae);have r2:=ia (f:=cw) nE (show(t.c9 m)[t.v m]? =some (eE x) by rw[aO.c9,iy,ae];rfl);have X:=j.c9 m z;rw[←E]at X;have aw:=TA (t.a m) x ((j.wV m z).mono aa) ⟨M.1.mono aa,M.2.mono aa⟩ X ⟨pU (j.wV m z) ag,pU M.1 ag,pU M.2 ag⟩;have N:(t.c9 m).length=p.n:=by rw[aO.c9,g5];exact a7
   have I:=aih (t.c9 m) aa (t.v m) aa (bh (t.a m));rw[show(pq (t.c9 m) (t.v m) (bh (t.a m))).1=t.c9 (2*m+1) by rw[aO.c9,aO.c9,j.l m z,ar5 _ _ _ aa],show(pq (t.c9 m) (t.v m) (bh (t.a m))).2=t.c9 (2*m+2) by rw[aO.c9,aO.c9,j.r m z,ar7 _ _ _ aa]]at I;have K:∀i,i≤2*t.s→cK (jz (2*m) (2*t.s+1) 0) i=some (.bool (decide (i≤2*m))):=fun i h=>by rw[gF,vX,ak aa,dK]
   have P:cK (kB t (2*m) (2*t.s+1) 0) m=some (b4 cw (t.c9 m)):=by rw[gF,y7,ak F,ak aa,dK]
   have U:((m:Int)<((2*m+1:Nat):Int))=True∧((m:Int)<((2*m+2:Nat):Int))=True∧(((2*m+1:Nat):Int)<(t.gf.length:Int))=True∧(((2*m+2:Nat):Int)<(t.gf.length:Int))=True∧(((2*m+1:Nat):Int)=((2*m+2:Nat):Int))=False∧((t.v m:Int)<0)=False∧((t.v m:Int)<(p.n:Int))=True:=by
    rw[lD];exact⟨eq_true aa,eq_true aa,eq_true aa,eq_true aa,eq_false aa,eq_false aa,eq_true aa⟩
   have R:decide (m≤2*m)=true∧decide (2*m+1≤2*m)=false∧decide (2*m+2≤2*m)=false:=⟨bk aa,aZ aa,aZ aa⟩;have ab:cT (eV p.n)=some (.val (ah (p.n:Int))):=rfl;have A:=b8 (aa:5<d.next)
   have B:=b8 (aa:6<d.next)
   have C:=b8 (aa:7<d.next)
   have D:=b8 (aa:8<d.next)
   have w1:cC [V.bool true] (jz (2*m) (2*t.s+1) 0) (2*m+1)=some _:=e9 (by rw[x1];omega);have w2:cC [V.bool true] ((jz (2*m) (2*t.s+1) 0).set (2*m+1) bO) (2*m+2)=some _:=e9 (by rw[gT,x1];omega);have w3:cC [b4 cw (t.c9 (2*m+1))] (kB t (2*m) (2*t.s+1) 0) (2*m+1)=some _:=e9 (by rw[AW];omega);have be:cC [b4 cw (t.c9 (2*m+2))] ((kB t (2*m) (2*t.s+1) 0).set (2*m+1) (b4 cw (t.c9 (2*m+1)))) (2*m+2)=some _:=e9 (by rw[gT,AW];omega);simp(disch:=omega)only[go_sem,u,hi,ff,G,dy,o,w,b3,K,A,B,C,D,R];refine bL O bU ?_;simp(disch:=omega)only[go_sem,u,o,w,L,S,eL,b3,ff,K,P,r2,ab,A,B,C,D,U,R,N];refine bL aw bU ?_;simp(disch:=omega)only[go_sem,u,o,w,L,S,eL,b3,ff,K,P,r2,ab,A,B,C,D,U,R,N,w1,w2];have Q:=xP P;have a5:ij (t.c9 (2*m+1))=.agg [b4 cw (t.c9 (2*m+1))]∧ij (t.c9 (2*m+2))=.agg [b4 cw (t.c9 (2*m+2))]:=⟨rfl,rfl⟩;simp(disch:=omega)only[go_sem,u,o,w,Q,A,B,C,D];refine bL I bU ?_;simp(disch:=omega)only[go_sem,u,o,w,b3,A,B,C,D,a5,w3,be,hi,m5,show m+1≤t.s from z];rw[TV t m _ aa,Q0 m _ aa];exact⟨kb,rfl,rfl,aa⟩
  ·have Y:t.s≤m:=aa;rw[Nat.min_eq_right Y]at o w;rw[show t.nd m=.leaf (t.fI m)from aj z]at G;have O:=Qh p.n (.leaf (t.fI m));have N:(t.c9 m).length=p.n:=by rw[aO.c9,g5];exact j.len m aa
   have ap:=arz p h (t.c9 m) N (fun y J=>by obtain⟨x,E,rfl⟩:=k_.1 J;exact anR (j.q m aa x E)) (t.fI m) (j.fI m Y aa);have K:cK (jz (2*t.s) (2*t.s+1) 0) m=some bO:=by rw[gF,vX,ak F,bk aa]
   have Q:=xP (show cK (kB t (2*t.s) (2*t.s+1) 0) m=some (b4 cw (t.c9 m)) by rw[gF,y7,ak F,ak aa,dK]);have A:=b8 (aa:5<d.next)
   have B:=b8 (aa:6<d.next)
   have C:=b8 (aa:7<d.next)
   have D:=b8 (aa:8<d.next)
   have a8:min (m+1) t.s=t.s:=Nat.min_eq_right aa;obtain⟨f,hf⟩:∃f,f=t.fI m:=⟨_,rfl⟩;rw[←hf]at G O ap;rcases f with _|k|⟨c,e⟩
   all_goals try cases c
   all_goals
    simp(disch:=omega)only[go_sem,u,hi,ff,G,dy,o,w,b3,K,A,B,C,D,cond_true,cond_false];refine bL O bU ?_;simp(disch:=omega)only[go_sem,u,o,w,L,b3,Q,A,B,C,D];refine bL ap bU ?_;simp only[go_sem,u,o,w,A,B,C,D,hi,a8];refine⟨kb,?_⟩;omega
 ·intro ar d u hh ⟨o,w,h9⟩;simp only[go_sem]at u;obtain⟨g,L,S⟩:=W d ⟨fun y J=>(hh.1 y J).trans (by simp(disch:=omega)only[go_sem,fS,eL]),hh.2⟩;rw[Nat.min_eq_right aa,J7 t _ _ _ aa]at o;change d.get 7=.cells (bC w5 t.wZ) 0 at o;have Z:t.wZ.length=2*t.s+1:=by unfold aO.wZ;rw[g5,List.length_range']
  simp only[go_sem,u];refine⟨g,_,.az (.cons (.row (m:=2*t.s+1) ?_ aa ?_ (cD.refl (bC w5 t.wZ))) (.cons (.same _) .nil)),.az (.cons (.row _ (BC w5 (fun ba=>.cons (iN sH ba) .nil) t.wZ)) (.cons (.bool _) .nil)),?_⟩
  ·rw[fJ o,c_];exact iC (by rw[hG w5 (k:=1) fun _=>rfl,Z,dF])
  ·rw[af.qv,kD,aj aa,aj aa,aj aa]
  ·unfold b4;rw[Z]
theorem BF(t:aO)(n:Nat)(b:Rat):bY (eL t n b):=.cons (iN sH _) (.cons (.str _) (.cons (iN (oz _) _) .nil))
theorem arC(p:fz)(h:p.aA)(t:aO)(c:t.aA p)(b:Rat)(a:a_ 81 b):c4 69 [js p,.agg (eL t p.n b)] bO:=by
 refine dm (.cons (sG p h.n) (.cons (.agg (BF t _ b)) .nil)) (cV Tryz.f69 (h:=?_));simp only[go_sem,js,eL];refine bL (agH p h t c b a) bU ?_;simp only[go_sem];exact bZ bU rfl (.bool _)
def rT(l:List (List UInt8)):List V:=l.map V.str
def mT(l:List (List UInt8)):V:=.row l.length (rT l)
theorem tW:∀l,bY (rT l)
 |[]=>.nil
 |s::l=>.cons (.str s) (tW l)
theorem td{l:List (List UInt8)}(h:l[a]? =some j):cK (rT l) a=some (.str j):=by rw[gF,rT,iy,h];rfl
@[go_sem]theorem avx(l:List (List UInt8)):cT (mT l)=some (.val (ah (l.length:Int))):=rfl
variable{q:Int}{n:IntKind}
theorem sO{l:List (List UInt8)}(h:0≤q∧q<l.length):dJ none 1 [mT l,.int n q]=some (.val (.cY (rT l) (q.toNat*1))):=kh h
theorem anv(s:List UInt8)(a:s.length≤500):c4 71 [.str s] (.bool (!(numOf s).isSome)):=by
 refine dm (.cons (.str _) .nil) (cV Tryz.f71 (h:=?_));simp only[go_sem];refine bL (yD s a) bU ?_;simp only[go_sem];exact bZ bU rfl (.bool _)
def pA:List (List UInt8)→Nat→Int
 |[],_=> -1
 |s::l,i=>if(numOf s).isSome then pA l (i+1)else i
theorem Gf:∀(l:List (List UInt8)) (m i:Nat) (s:List UInt8),(∀j,j<m→∀u,l[j]? =some u→(numOf u).isSome=true)→l[m]? =some s→(numOf s).isSome=false→pA l i=((i+m:Nat):Int)
 |[],_,_,_,_,h,_=>by cases h
 |u::l,0,i,s,_,h,e=>by cases h;rw[pA,e,aj ag];rfl
 |u::l,m+1,i,s,a,h,e=>by
  rw[pA,a 0 aa u rfl,ak rfl,Gf l m (i+1) s (fun j c v b=>a (j+1) aa v b) h e,(aa:i+1+m=i+(m+1))]
theorem Gg:∀(l:List (List UInt8)) (i:Nat),(∀j,j<l.length→∀u,l[j]? =some u→(numOf u).isSome=true)→pA l i= -1
 |[],_,_=>rfl
 |u::l,i,a=>by rw[pA,a 0 (lf _) u rfl,ak rfl,Gg l (i+1) fun j h v b=>a (j+1) (Nat.succ_lt_succ h) v b]
theorem aiS(l:List (List UInt8))(hl:l.length≤1000)(p:∀s∈l,s.length≤500):c4 119 [mT l,.func 71 [] []] (ah (pA l 0)):=by
 refine dm (.cons (.row _ (tW l)) (.cons (.func _ .nil .nil) .nil)) (cV Tryz.f119 (h:=?_));have k:∀x:V,ru [.func 71 [] [],x]=some (.fn 71,[x]):=fun _=>rfl
 simp only[go_sem];refine each l.length [0,1,6,7] 5 (fun m _ _=>∀j,j<m→∀u,l[j]? =some u→(numOf u).isSome=true) ?_ ?_ aa ag (aE 5) (fun _ _ _ _ _ _ h=>h) (fun _ h=>(ke _ h).elim) ?_ ?_
 iterate 2 simp only[go_sem]
 ·intro m f i o a hh hi b;simp only[go_sem]at a;obtain⟨s,q,c⟩:=iM o;have g:=hh.gt fB;simp(disch:=omega)only[go_sem,a,hi,sO,td c,k];refine bL (anv s (p s q)) g ?_;cases e:(numOf s).isSome
  ·simp only[go_sem,a,hi];exact bZ g (by rw[Gf l m 0 s b c e,dK]) (.int _ _)
  ·simp only[go_sem,a,hi];refine⟨hh,fun j r u d=>?_⟩;by_cases n:j=m
   ·subst n;rw[c]at d;cases d;exact e
   ·exact b j aa u d
 ·intro f i a hh b;simp only[go_sem];exact bZ (hh.gt fB) (by rw[Gg l 0 b]) (.int _ _)
theorem UO(l:List (List UInt8))(hl:l.length≤1000)(a:∀s∈l,s.length≤500):c4 70 [mT l,.func 71 [] []] (.bool (!decide (pA l 0<0))):=by
 refine dm (.cons (.row _ (tW l)) (.cons (.func _ .nil .nil) .nil)) (cV Tryz.f70 (h:=?_));simp only[go_sem];refine bL (aiS l hl a) bU ?_;simp only[go_sem];exact bZ bU rfl (.bool _)
def gr(q:Rat)(s:cc):Bool:=(s.hl&&decide (fL (q-s.lo)<0))||(s.hh&&decide (0<fL (q-s.hi)))
def kI(t:aO)(x:Nat→Rat):Nat→Nat→Nat
 |0,n=>n
 |k+1,n=>if n<t.s then kI t x k (if fL (x (t.v n)-t.a n)≤0 then 2*n+1 else 2*n+2)else n
def jN(a:List (List UInt8))(i:Nat):Rat:=rv (a.getD i [])
def lB(p:fz)(t:aO)(a:List (List UInt8)):V:=
 if¬pA a 0<0 then .az [ah 0,ah 1]
 else if a.length≠p.n then .az [ah 0,ah 4]
 else if∃i,i<p.n∧gr (jN a i) ((t.bs 0).getD i gR)=true then .az [ah 0,ah 8]
 else .az [ah (kI t (jN a) t.s 0:Nat),ah 0]
theorem vJ:∀ {a:List V}{n k:Nat}{v:V}{l:List V},cq (eC a n) (k+1)=some (v::l)→cK a n=some v
 |[],0,_,_,_,h=>by cases h
 |[],_+1,_,_,_,h=>by cases h
 |c::a,0,k,v,l,h=>by
  rw[c_,PD]at h;cases e:cq a k with
  |none=>rw[e]at h;cases h
  |some r=>rw[e]at h;cases h;rfl
 |c::a,n+1,k,v,l,h=>by rw[Pk]at h;rw[Pu];exact vJ h
theorem amu(p:fz)(h:p.aA)(t:aO)(D:t.aA p)(b:Rat)(hb:a_ 81 b)(f:List (List UInt8))(hl:f.length≤1000)(I:∀ab∈f,ab.length≤30):c4 27 [js p,.agg (eL t p.n b),mT f] (lB p t f):=by
 have hn:=h.n;have ce:=D.s;refine dm (.cons (sG p h.n) (.cons (.agg (BF t _ b)) (.cons (.row _ (tW f)) .nil))) (cV Tryz.f27 (h:=?_));have a7:∀a b:Int,bz (.az [ah a,ah b]):=fun a b=>.az (.cons (.int _ _) (.cons (.int _ _) .nil))
 have G:bz (lB p t f):=by unfold lB;repeat' split
                          all_goals exact a7 _ _
 have aw:cT (eV p.n)=some (.val (ah (p.n:Int))):=rfl;simp only[go_sem,js,eL];refine bL (arC p h t D b hb) bU ?_;simp only[go_sem];refine bL (UO f hl fun ab h=>by have:=I ab h;omega) bU ?_;by_cases F:pA f 0<0
 ·by_cases X:f.length=p.n
  ·have V:((f.length:Int)=(p.n:Int))=True:=eq_true aa;simp only[go_sem,F,aw,V];have lb:(t.bs 0).length=p.n:=D.len 0 aa;have y:(t.c9 0).length=p.n:=by rw[aO.c9,g5];exact lb
   have W:∀B:af,eF 7 ((cZ.push (.cells [eV p.n,ah p.n,eN p.obj,cA p.n p.is,cA p.n p.es] 0)).push (.cells (eL t p.n b) 0)) B→GT B∧B.get 6=.cells (eL t p.n b) 0:=fun B hh=>⟨hh.gt bU,by rw[hh.1 6 ag];simp only[go_sem]⟩
   have a':(∃i,i<p.n∧gr (jN f i) ((t.bs 0).getD i gR)=true)→lB p t f=.az [ah 0,ah 8]:=fun L=>by unfold lB;rw[aj (by simpa using F),aj (by simpa using X),ak L]
   refine each p.n [2,3,4,30,31] 7 (fun m _ _=>∀j,j<m→gr (jN f j) ((t.bs 0).getD j gR)=false) ?_ ?_ aa ag (aE 7) (fun _ _ _ _ _ _ h=>h) (fun _ h=>(ke _ h).elim) ?_ ?_
   iterate 2 simp only[go_sem,y]
   ·intro m a2 B T o hh hi L;simp only[go_sem]at o;obtain⟨g,a4⟩:=W B hh;have h7:=hh.2;obtain⟨x,bi,hx⟩:=iM (aa:m<(t.bs 0).length);obtain⟨u,J,E⟩:=iM (aa:m<f.length);have hr:=ia (f:=cw) nE (show(t.c9 0)[m]? =some (eE x) by rw[aO.c9,iy,hx];rfl);have be:(t.bs 0).getD m gR=x:=by rw[bX,hx];rfl
    have Z:jN f m=rv u:=by unfold jN;rw[bX,E];rfl
    have U:=D.q 0 aa x bi;have c1:=w9 u (bh x.lo) (by have:=I u J;omega) (pU U.1 ag) (a:=121) (b:=81) (x7 (L:=30) (I u J)) (by rw[l7];exact U.1) ag;have P:=w9 u (bh x.hi) (by have:=I u J;omega) (pU U.2 ag) (a:=121) (b:=81) (x7 (L:=30) (I u J)) (by rw[l7];exact U.2) ag;rw[l7]at c1 P;have a0:gr (jN f m) ((t.bs 0).getD m gR)=gr (rv u) x:=by rw[be,Z]
    have O:gr (rv u) x=true→lB p t f=.az [ah 0,ah 8]:=fun e=>a' ⟨m,T,by rw[a0];exact e⟩
    have S:gr (rv u) x=false→∀j,j<m+1→gr (jN f j) ((t.bs 0).getD j gR)=false:=fun e j hj=>by
     by_cases a8:j=m
     ·subst a8;rw[a0];exact e
     ·exact L j aa
    obtain⟨lo,ar,l,w⟩:=x;simp(disch:=omega)only[go_sem,o,hi,ff,hr,y,cw,eE];cases l
    ·cases w
     ·simp only[go_sem,o,hi,y,ie,if_false];exact⟨kb,S rfl⟩
     ·simp(disch:=omega)only[go_sem,o,hi,y,ie,if_false,oN,sO,td E];refine bL P bU ?_;by_cases e:0<fL (rv u-ar)
      ·simp only[go_sem,o,hi,y,e];exact bZ bU (by rw[O (by unfold gr;simp[e])]) G
      ·simp only[go_sem,o,hi,y,e];exact⟨kb,S (by unfold gr;simp[e])⟩
    ·simp(disch:=omega)only[go_sem,o,hi,y,ie,if_false,oN,sO,td E];refine bL c1 bU ?_;by_cases A:fL (rv u-lo)<0
     ·cases w
      ·simp only[go_sem,o,hi,y,ie,if_false,A];exact bZ bU (by rw[O (by unfold gr;simp[A])]) G
      ·simp(disch:=omega)only[go_sem,o,hi,y,ie,if_false,oN,sO,td E,A];refine bL P bU ?_;simp only[go_sem,o,hi,y];exact bZ bU (by rw[O (by unfold gr;simp[A])]) G
     ·cases w
      ·simp only[go_sem,o,hi,y,ie,if_false,A];exact⟨kb,S (by unfold gr;simp[A])⟩
      ·simp(disch:=omega)only[go_sem,o,hi,y,ie,if_false,oN,sO,td E,A];refine bL P bU ?_;by_cases e:0<fL (rv u-ar)
       ·simp only[go_sem,o,hi,y,e];exact bZ bU (by rw[O (by unfold gr;simp[e])]) G
       ·simp only[go_sem,o,hi,y,e];exact⟨kb,S (by unfold gr;simp[e,A])⟩
   ·intro a2 B o hh L;simp only[go_sem]at o;obtain⟨g,a4⟩:=W B hh;simp only[go_sem,o];have bc:¬∃i,i<p.n∧gr (jN f i) ((t.bs 0).getD i gR)=true:=fun⟨i,hi,e⟩=>by rw[L i hi]at e;cases e
    have ba:lB p t f=.az [ah (kI t (jN f) t.s 0:Nat),ah 0]:=by unfold lB;rw[aj (by simpa using F),aj (by simpa using X),aj bc]
    refine bH (fun r M N=>∃d k,r=2*t.s+1-d∧d≤2*t.s∧t.s≤d+k∧kI t (jN f) k d=kI t (jN f) t.s 0∧rd 2 M=mT f∧rd 4 M=.ptr 6 0∧eF 7 B N∧rd 12 M=ah (d:Int)) (2*t.s+1) ⟨0,t.s,rfl,bQ _,aa,rfl,?_,?_,.refl hh.2,?_⟩ ?_
    iterate 2 simp only[go_sem,o]
    ·simp only[go_sem];rfl
    rintro r M N ⟨d,k,rfl,cb,cd,H,Q,R,ap,al⟩;obtain⟨g2,am⟩:=W N (hh.trans ap);have h7:=ap.2;have T:d<2*t.s+1:=aa;have bb:t.gf[d]? =some (t.nd d):=by rw[aO.gf,iy,wG T];rfl
    have K:=ia (sY p.n) bb;have b':d<t.gf.length:=by rw[lD];exact T
    by_cases C:d<t.s
    ·rw[show t.nd d=.split (t.v d) (t.a d) (2*d+1) (2*d+2)from ak C]at K;have Y:=vJ K;obtain⟨u,J,E⟩:=iM (show t.v d<f.length by have:=D.v d C;omega);have Z:jN f (t.v d)=rv u:=by unfold jN;rw[bX,E];rfl
     have ad:=w9 u (bh (t.a d)) (by have:=I u J;omega) (pU (D.wV d C) ag) (a:=121) (b:=81) (x7 (L:=30) (I u J)) (by rw[l7];exact D.wV d C) ag;rw[l7]at ad;have cf:=D.v d C;have b1:=b8 (aa:6<N.next)
     obtain⟨k,rfl⟩:∃k',k=k'+1:=⟨k-1,aa⟩;rw[kI,ak C,Z]at H;simp(disch:=omega)only[go_sem,Q,R,al,am,eL,ff,K,Y,dy,b1,sO,td E];refine bL ad bU ?_;by_cases e:0<fL (rv u-t.a d)
     ·rw[aj aa]at H;simp only[go_sem,e];refine⟨2*t.s+1-(2*d+2),aa,2*d+2,k,rfl,aa,aa,H,?_,?_,kb,?_⟩
      iterate 3 simp only[go_sem,Q,R]
     ·rw[ak aa]at H;simp only[go_sem,e];refine⟨2*t.s+1-(2*d+1),aa,2*d+1,k,rfl,aa,aa,H,?_,?_,kb,?_⟩
      iterate 3 simp only[go_sem,Q,R]
    ·have a9:kI t (jN f) k d=d:=by
      cases k with
      |zero=>rfl
      |succ k=>rw[kI,aj C]
     rw[a9]at H;rw[show t.nd d=.leaf (t.fI d)from aj C]at K;obtain⟨z,cs,hz,bo⟩:∃z cs,dy p.n (.leaf (t.fI d))=ah z::cs∧z≠1:=by
      rcases t.fI d with _|q|⟨c,e⟩
      ·exact⟨_,_,rfl,ag⟩
      ·exact⟨_,_,rfl,ag⟩
      ·cases c
       ·exact⟨_,_,rfl,ag⟩
       ·exact⟨_,_,rfl,ag⟩
     rw[hz]at K;have Y:=vJ K;have A:(z=1)=False:=eq_false bo;simp(disch:=omega)only[go_sem,Q,R,al,am,eL,ff,Y,A];exact bZ g2 (by rw[ba,H]) G
  ·have V:((f.length:Int)=(p.n:Int))=False:=eq_false aa;simp only[go_sem,F,aw,V];exact bZ bU (by unfold lB;rw[aj (by simpa using F),ak X]) G
 ·simp only[go_sem,F];exact bZ bU (by unfold lB;rw[ak F]) G
theorem jy(d:bY b)(h:c7 a b (af.zero 5) fun e c=>∃v,bR c (af.zero c.next) e v∧bz v∧v=s):aW a b s:=pJ (R:=fun v=>v=s) d h
theorem jf{v:V}(h:v=s)(a:bz s):∃u,bR c (af.zero c.next) v u∧bz u∧u=s:=⟨v,.same v,by rw[h];exact a,h⟩
def iX(n:Nat)(p:List ax):List V:=f_ n p++f_ n []
def pP(n:Nat)(p:List ax):V:=.agg (iX n p)
theorem vn(n:Nat)(p:List ax):bY (f_ n p):=.cons (.int _ _) (.cons (tX _) .nil)
theorem vo(n:Nat)(p:List ax):bY (iX n p):=lu (vn n p) (vn n [])
theorem ame(n:Nat)(p:List ax):aW 317 [gu n p] (pP n p):=by
 refine jy (.cons (.agg (vn n p)) .nil) (cV Tryz.f317 (h:=?_));simp only[go_sem,gu,f_];exact⟨_,.agg (.cons (.same _) (.cons (.same _) (.cons (.same _) (.cons .fK .nil)))),.agg (vo n p),rfl⟩
structure wR (n:Nat) (p:List ax):Prop where
 ok:jo n p
 hn:n=1∨n=2
theorem wR.wr(h:wR a l):aW 49 [gu a l] (.agg [ah a,eN l]):=by
 have:=h.hn;have hl:=h.ok.len;exact IB l a 100 aa (fun c b=>(h.ok.t c b).len) (fun c b=>(h.ok.t c b).q) ag aa
theorem SF(n:Nat)(p:List ax)(h:wR n p):aW 263 [pP n p] (qQ n p):=by
 have a:aW 49 [gu n []] (.agg [ah n,eN []]):=wR.wr ⟨Cp n,h.hn⟩;refine jy (.cons (.agg (vo n p)) .nil) (cV Tryz.f263 (h:=?_));simp only[go_sem,pP,iX,f_];refine use h.wr ?_;simp only[go_sem];refine use a ?_;simp only[go_sem,vD];exact jf rfl (.agg (vp n p))
theorem amO(w:Rat)(b:a_ 100 w):aW 319 [bw w,bw 0,ah 1] (tc (bh w)):=by
 refine jy (.cons (fX _) (.cons (fX _) (.cons (.int _ _) .nil))) (cV Tryz.f319 (h:=?_));have a:=xY w 0 b (Ct (k:=1) ag) ag;rw[show w+0=w by grind]at a;simp only[go_sem,bw,aV];refine use a ?_;simp only[go_sem,bw,aV];refine use (uH w b ag) ?_;simp only[go_sem];exact jf rfl (.agg (.cons (.str _) (.cons (.str _) (.cons (.int _ _) .nil))))
def ki(n:Nat)(s:m7):List V:=aV (s.w:Rat)++(aV 0++iX n s.r)
theorem x6(n:Nat)(s:m7):(ki n s).length=12:=rfl
theorem FT(n:Nat)(s:m7):bY (ki n s):=lu (pg _) (lu (pg _) (vo n s.r))
theorem asb(n:Nat)(a:n=1∨n=2)(s:m7)(h:s.aA n):aW 262 [ah 1,.agg (ki n s)] (.agg (k5 n s)):=by
 refine jy (.cons (.int _ _) (.cons (.agg (FT n s)) .nil)) (cV Tryz.f262 (h:=?_));simp only[go_sem,ki,aV,iX,f_];refine use (amO _ (Hl h.w)) ?_;simp only[go_sem];refine use (SF n s.r ⟨h.r,a⟩) ?_;simp only[go_sem,tc,qQ,iR,cj,vD];exact jf rfl (.agg (BD n s))
theorem aoW(e:List Nat)(n:Nat)(i:n=1∨n=2)(hl:e.length=n)(f:e.sum≤24):aW 367 [b6 e] (ah (e.sum:Nat)):=by
 refine jy (.cons (oy e) .nil) (cV Tryz.f367 (h:=?_));have g:((6:Int)<(e.length:Int))=False:=eq_false aa;simp only[go_sem,g];rcases i with rfl|rfl
 ·obtain⟨a,rfl⟩:∃a,e=[a]:=by
   match e,hl with
   |[a],_=>exact⟨a,rfl⟩
  simp only[List.sum_cons,List.sum_nil,cE]at f;refine qX 2 ?_;have c:((a:Int)<0)=False:=eq_false aa;have d:((24:Int)<(a:Int))=False:=eq_false aa;simp(disch:=omega)only[go_sem,kz,b6,cv,cL,kP,List.map_cons,List.map_nil,kh,aH,c,d,Int.cast_ofNat_Int,Int.reduceAdd,Int.reduceSub];exact jf aB (.int _ _)
 ·obtain⟨a,b,rfl⟩:∃a b,e=[a,b]:=by
   match e,hl with
   |[a,b],_=>exact⟨a,b,rfl⟩
  simp only[List.sum_cons,List.sum_nil,cE]at f;refine qX 3 ?_;have c:((a:Int)<0)=False:=eq_false aa;have d:((24:Int)<(a:Int))=False:=eq_false aa;have d3:((b:Int)<0)=False:=eq_false aa;have h:((24:Int)-(0+(a:Int))<(b:Int))=False:=eq_false aa;simp(disch:=omega)only[go_sem,kz,b6,cv,cL,kP,List.map_cons,List.map_nil,kh,aH,c,d,d3,h,Int.cast_ofNat_Int,Int.reduceAdd,Int.reduceSub];exact jf aB (.int _ _)
theorem Rt(e:List Nat)(n:Nat)(c:n=1∨n=2)(hl:e.length=n)(d:e.sum≤24):aW 316 [b6 e] bO:=by
 refine jy (.cons (oy e) .nil) (cV Tryz.f316 (h:=?_));have a:((6:Int)<(e.length:Int))=False:=eq_false aa;have b:(((e.sum:Nat):Int)<0)=False:=eq_false aa;simp only[go_sem,a];refine use (aoW e n c hl d) ?_;simp only[go_sem,b];exact jf rfl (.bool _)
theorem Ob(n:Nat)(p:List ax)(h:wR n p):aW 318 [gu n p] bO:=by
 have hl:=h.ok.len;refine jy (.cons (.agg (vn n p)) .nil) (cV Tryz.f318 (h:=?_));have b:((4096:Int)<(p.length:Int))=False:=eq_false aa;cases p with
 |nil=>
  simp only[go_sem,gu,f_,kP,Int.cast_ofNat_Int];exact jf rfl (.bool _)
 |cons s p=>
  have a:=h.ok.t s aB;have c:(((s::p).length:Int)=0)=False:=eq_false (by rw[cL];omega);have e:=Ic (l:=s::p) (i:=0) rfl;have hi:(0:Int)≤0∧(0:Int)<(((s::p).length:Nat):Int):=by rw[cL];omega
  have d:cK (de (s::p)) 4=some (b6 s.2):=rfl;simp only[go_sem,gu,f_,b,c,pz hi,d];refine use (Rt s.2 n h.hn a.len a.sum) ?_;simp only[go_sem];exact jf rfl (.bool _)
theorem Oa(n:Nat)(p:List ax)(h:wR n p):aW 261 [pP n p] bO:=by
 refine jy (.cons (.agg (vo n p)) .nil) (cV Tryz.f261 (h:=?_));simp only[go_sem,pP,iX,f_];refine use (Ob n p h) ?_;simp only[go_sem];refine use (Ob n [] ⟨Cp n,h.hn⟩) ?_;simp only[go_sem];exact jf rfl (.bool _)
def Ah(k:Nat)(l:List (List UInt8)):Bool:=l.all fun s=>decide (s.length≤k)
theorem aqj(k:Nat)(l:List (List UInt8))(hl:l.length≤1000):c4 26 [ah (k:Int),mT l] (.bool (Ah k l)):=by
 refine dm (.cons (.int _ _) (.cons (.row _ (tW l)) .nil)) (cV Tryz.f26 (h:=?_));simp only[go_sem];refine each l.length [0,7,8] 5 (fun m _ _=>∀j,j<m→∀u,l[j]? =some u→u.length≤k) ?_ ?_ aa ag (aE 5) (fun _ _ _ _ _ _ h=>h) (fun _ h=>(ke _ h).elim) ?_ ?_
 iterate 2 simp only[go_sem]
 ·intro m i n q a hh hi c;simp only[go_sem]at a;obtain⟨s,t,b⟩:=iM q;have g:=hh.gt fB;by_cases h:s.length≤k
  ·have e:((k:Int)<(s.length:Int))=False:=eq_false aa;simp(disch:=omega)only[go_sem,a,hi,sO,td b,e];refine⟨hh,fun j d u f=>?_⟩;by_cases p:j=m
   ·subst p;rw[b]at f;cases f;exact h
   ·exact c j aa u f
  ·have e:((k:Int)<(s.length:Int))=True:=eq_true aa;simp(disch:=omega)only[go_sem,a,hi,sO,td b,e];refine bZ g ?_ (.bool _);have:Ah k l=false:=by
    cases o:Ah k l
    ·rfl
    ·exact absurd (of_decide_eq_true (sg.1 o s t)) h
   rw[this]
 ·intro i n a hh c;simp only[go_sem];refine bZ (hh.gt fB) ?_ (.bool _);have:Ah k l=true:=sg.2 fun s r=>by
   obtain⟨j,d,e⟩:=List.getElem_of_mem r;exact bk (c j d s (by rw[cn d,e]))
  rw[this]
theorem Qa(q:Rat)(hl:(bh q).length≤500):aW 74 [.str (bh q)] (bw q):=by
 refine jy (.cons (.str _) .nil) (cV Tryz.f74 (h:=?_));have h:=zP (bh q) hl;rw[Cw]at h;simp only[go_sem];refine use h ?_;simp only[go_sem,s4,bw,aV];exact jf rfl (fX q)
theorem uE{b:Fr}{v:V}(e:a∉d)(h:kg d b m):kg d (put b (some a) v) m:=
 uD.2 fun t c=>by rw[qK (by rintro rfl;exact e c)];exact uD.1 h t c
variable{M:aP}{F:X→Fr→af→Prop}
theorem Bs{k n:Nat}{T:List c3}(f:Nat)(g:List Nat)(B:Nat)(E:Nat→af→Prop)
 (hi:rd a m=ah 0) (hl:f<1000000000) (z:a∉g∧u∉g∧L∉g∧a≠u∧a≠L) (y:B≤c.next) (v:E 0 c)
 (P:∀(b:Nat) e d,kg g e m→eF B c d→rd a e=ah (b:Int)→∀K:Fr→af→Prop,(∀i,kg g i m→rd a i=ah (b:Int)→rd h i=.bool (decide (b<f))→K i d)→kf eP 5 T K e d)
 (step:∀(b:Nat) e d,b<f→kg g e m→eF B c d→rd a e=ah (b:Int)→E b d→bx M (iT n (wS g B a b m c (fun _=>E (b+1)) (iT k F))) e d)
 (w:∀e d,kg g e m→eF B c d→E f d→F .norm e d):
 bx (.loop (.seq (.seq (.bN T) (.cond (rd h) .skip (.exit k))) (.seq (.block n M) (.bN [ex u (mv (rd a)),ex L (bi .add (rd u) (kc (ah 1))),ex a (bS (rd L))])))) (iT k F) m c:=by
 obtain⟨A,C,D,Q,R⟩:=z;refine bH (fun r e d=>∃b,r=f-b∧b≤f∧kg g e m∧eF B c d∧rd a e=ah (b:Int)∧E b d) f ⟨0,rfl,bQ _,uD.2 fun _ _=>rfl,.refl y,hi,v⟩ ?_;rintro r e d ⟨b,rfl,S,G,hh,H,s⟩;simp only[go_sem];refine P b e d G hh H _ fun i t I l=>?_
 by_cases j:b<f
 ·rw[bk j]at l;simp only[go_sem,l];refine Go.au.wp_mono M (fun x o p=>DY (fun x o p q=>?_) x o p) (step b i d j t hh I s);cases x with
  |norm=>
   obtain⟨N,n,bA,O⟩:=q;have J:aC .i64 ((b:Int)+1)=((b+1:Nat):Int):=by rw[aH _ aa];omega
   show bx (.bN _) _ o p;simp only[go_sem,bA,J];exact⟨f-(b+1),aa,b+1,rfl,j,uE A (uE D (uE C N)),n,by simp only[go_sem],O⟩
  |ret=>exact q
  |exit L=>exact q
 ·rw[aZ j]at l;have L:b=f:=aa;subst L;simp only[go_sem,l];exact w _ _ t hh s
def n6(l:List Rat):V:=b4 aV l
theorem vU(q:Rat):(aV q).length=4:=rfl
def oM(l:List Rat)(m:Nat):Nat→Nat→List V
 |0,_=>[]
 |k+1,j=>.str (if j<m then bh (l.getD j 0)else [])::oM l m k (j+1)
theorem Ij(l:List Rat)(m:Nat):∀k j,(oM l m k j).length=k
 |0,_=>rfl
 |k+1,j=>by rw[oM,cL,Ij]
theorem C6(l:List Rat)(m:Nat):∀k j i,(oM l m k j)[i]? =if i<k then some (.str (if j+i<m then bh (l.getD (j+i) 0)else []))else none
 |0,_,_=>by rw[oM,aj aa];rfl
 |k+1,j,0=>by rw[ak (lf k)];rfl
 |k+1,j,i+1=>by
  rw[oM,List.getElem?_cons_succ,C6 l m k (j+1) i,(aa:j+1+i=j+(i+1))];simp only[Nat.add_lt_add_iff_right]
theorem ard(l:List Rat)(m k:Nat)(h:m<k):(oM l m k 0).set m (.str (bh (l.getD m 0)))=oM l (m+1) k 0:=by
 refine si fun i=>?_
 rw[oU,Ij,C6,C6];simp only[dK];by_cases a:m=i
 ·subst a;rw[ak rfl,ak h,ak h,ak aa]
 ·rw[aj a,show(if i<m then bh (l.getD i 0)else [])=if i<m+1 then bh (l.getD i 0)else [] by
   by_cases b:i<m
   ·rw[ak b,ak aa]
   ·rw[aj b,aj aa]]
theorem Sd(l:List Rat):∀k j,rep [V.str []] k=oM l 0 k j
 |0,_=>rfl
 |k+1,j=>by rw[z7,Sd l k (j+1),oM,aj (ke _)];rfl
theorem arc(l:List Rat):oM l l.length l.length 0=rT (l.map bh):=by
 refine si fun i=>?_
 rw[C6,rT,iy,iy,dK];by_cases h:i<l.length
 ·rw[ak h,ak h,cn h,bX,cn h];rfl
 ·rw[aj h,kO aa];rfl
theorem aqU(l:List Rat)(hl:l.length≤1000)(o:∀q∈l,a_ 100 q):c4 24 [n6 l] (mT (l.map bh)):=by
 refine dm (.cons (iN pg l) .nil) (cV Tryz.f24 (h:=?_));have r:(0:Int)≤(l.length:Int)∧(l.length:Int)*(16:Nat)≤1099511627776∧(l.length:Int)≤1099511627776:=aa;simp only[go_sem,n6,ir r];rw[Sd l _ 0];refine Bs l.length [0,3] 5 (fun m H=>H.get 5=.cells (oM l m l.length 0) 0∧6≤H.next) ?_ aa ag (sr 5) ⟨by simp only[go_sem],aE 6⟩ ?_ ?_ ?_
 ·simp only[go_sem]
 ·intro m f d b _ hi K j;simp only[go_sem]at b;simp only[go_sem,b,hi,m0];refine j _ ?_ ?_ ?_
  iterate 3 simp only[go_sem,b,hi]
 ·intro m f d e b hh hi ⟨c,h⟩;simp only[go_sem]at b;obtain⟨a,n,i⟩:=iM e;have p:=ia vU i;have s:cC [V.str (bh a)] (oM l m l.length 0) m=some _:=e9 (by rw[Ij];exact e);have k:l.getD m 0=a:=by rw[bX,i];rfl
  simp(disch:=omega)only[go_sem,b,hi,ff,p];refine use (uH a (o a n) ag) ?_;simp(disch:=omega)only[go_sem,b,hi,b3,c,s];rw[←k,ard l m _ e];exact⟨kb,rfl,h⟩
 ·intro f d b hh ⟨c,h⟩;simp only[go_sem]at b;simp only[go_sem,b];have g:GT d:=hh.gt bU;rw[arc]at c;cases l with
  |nil=>exact⟨g,_,.eW _ _ _,.row 0 .nil,rfl⟩
  |cons q l=>
   refine⟨g,_,.row (m:=(q::l).length) ?_ (by rw[cL];omega) ?_ (cD.refl (rT ((q::l).map bh))),.row _ (tW _),by rw[mT,g5]⟩
   ·rw[fJ c,c_];exact iC (by simp[rT])
   ·rw[af.qv,kD,aj aa,aj aa,aj aa]
def iF(L:List (List V)):List V:=bC id L
theorem Ro:∀ {L:List (List V)},(∀r∈L,r.length=a)→(iF L).length=L.length*a
 |[],_=>by simp[iF,bC]
 |r::L,h=>by
  show(r++iF L).length=_;rw[aS,h r aB,Ro fun s b=>h s (by simp[b]),cL,oe];omega
theorem CH:∀(L:List (List V)) (i:Nat) (x:List V),(∀r∈L,r.length=a)→x.length=a→i<L.length→cC x (iF L) (i*a)=some (iF (L.set i x))
 |[],_,_,_,_,h=>(ke _ h).elim
 |r::L,0,x,c,f,_=>by
  have d:=c r aB;rw[jb,lC,ak (by show 0+x.length≤(r++iF L).length;rw[aS];omega)];show some ([]++x++(r++iF L).drop (0+x.length))=some (x++iF L);rw[dK,f,←d,uS];rfl
 |r::L,i+1,x,c,f,hi=>by
  have d:=c r aB;have b:=CH L i x (fun s j=>c s (by simp[j])) f (Nat.lt_of_succ_lt_succ hi);rw[lC]at b⊢;by_cases g:i*a+x.length≤(iF L).length
  ·rw[ak g]at b;have e:(i+1)*a=r.length+i*a:=by rw[oe,d];omega
   rw[ak (by show(i+1)*a+x.length≤(r++iF L).length;rw[aS,e];omega)];show some ((r++iF L).take ((i+1)*a)++x++(r++iF L).drop ((i+1)*a+x.length))=some (r++iF (L.set i x));rw[e,List.take_length_add_append,jl,List.drop_length_add_append,←Option.some.inj b];simp[eJ]
  ·rw[aj g]at b;cases b
def nu(l:List (List UInt8))(m:Nat):List (List V):=(tE 0 l.length).map fun j=>if j<m then aV (rv (l.getD j []))else k7
theorem GO(l:List (List UInt8))(m:Nat):(nu l m).length=l.length:=by simp[nu]
theorem P7(l:List (List UInt8))(m:Nat):∀r∈nu l m,r.length=4:=fun r a=>by
 obtain⟨j,_,rfl⟩:=k_.1 a;show(if j<m then aV (rv (l.getD j []))else k7).length=4;split<;>rfl
theorem GN(l:List (List UInt8))(m i:Nat):(nu l m)[i]? =if i<l.length then some (if i<m then aV (rv (l.getD i []))else k7)else none:=by
 rw[nu,iy];by_cases h:i<l.length
 ·rw[ak h,List.getElem?_range' h];simp
 ·rw[aj h,kO (by simp;omega)];rfl
theorem anF(l:List (List UInt8))(m:Nat)(h:m<l.length):(nu l m).set m (aV (rv (l.getD m [])))=nu l (m+1):=by
 refine si fun i=>?_
 rw[oU,GO,GN,GN];by_cases a:m=i
 ·subst a;rw[ak rfl,ak h,ak h,ak aa]
 ·rw[aj a,show(if i<m then aV (rv (l.getD i []))else k7)=if i<m+1 then aV (rv (l.getD i []))else k7 by
   by_cases b:i<m
   ·rw[ak b,ak aa]
   ·rw[aj b,aj aa]]
theorem Rd:∀(k j:Nat),rep k7 k=iF ((tE j k).map fun _=>k7)
 |0,_=>rfl
 |k+1,j=>by rw[z7,Rd k (j+1),iP];rfl
theorem anG(l:List (List UInt8)):rep k7 l.length=iF (nu l 0):=by
 rw[Rd _ 0];rfl
theorem anE(l:List (List UInt8)):iF (nu l l.length)=bC aV (l.map rv):=by
 have h:nu l l.length=(l.map rv).map aV:=by
  refine si fun i=>?_
  rw[GN,iy,iy];by_cases h:i<l.length
  ·rw[ak h,ak h,cn h,bX,cn h];rfl
  ·rw[aj h,kO aa];rfl
 rw[h];have:∀m:List Rat,iF (m.map aV)=bC aV m:=fun m=>by
  induction m with
  |nil=>rfl
  |cons a m b=>show aV a++iF (m.map aV)=aV a++bC aV m;rw[b]
 exact this _
def rL(l:List (List UInt8)):V:=if pA l 0<0 then .az [b4 aV (l.map rv),bO]else .az [.an,aD]
theorem anJ(l:List (List UInt8))(hl:l.length≤1000)(C:∀s∈l,s.length≤500):c4 28 [mT l] (rL l):=by
 have c:bz (rL l):=by unfold rL;split;exact .az (.cons (iN pg _) (.cons (.bool _) .nil));exact .az (.cons .an (.cons (.bool _) .nil))
 refine dm (.cons (.row _ (tW l)) .nil) (cV Tryz.f28 (h:=?_));have F:(0:Int)≤(l.length:Int)∧(l.length:Int)*(64:Nat)≤1099511627776∧(l.length:Int)≤1099511627776:=aa;simp only[go_sem,ir F];rw[show rep [V.bool false,.an,aD,.an] l.length=iF (nu l 0)from anG l];refine Bs l.length [0,4] 5 (fun m H=>H.get 5=.cells (iF (nu l m)) 0∧6≤H.next∧∀j,j<m→∀u,l[j]? =some u→(numOf u).isSome=true) ?_ aa ag (sr 5) ⟨by simp only[go_sem],aE 6,fun _ h=>(ke _ h).elim⟩ ?_ ?_ ?_
 ·simp only[go_sem]
 ·intro m o b a _ hi K x;simp only[go_sem]at a;simp only[go_sem,a,hi,m0];refine x _ ?_ ?_ ?_
  iterate 3 simp only[go_sem,a,hi]
 ·intro m o b k a hh hi ⟨e,w,i⟩;simp only[go_sem]at a;obtain⟨s,D,f⟩:=iM k;have B:=zP s (C s D);have y:l.getD m []=s:=by rw[bX,f];rfl
  have g:GT b:=hh.gt bU;obtain⟨p,v⟩:=QT s;have G:=b8 (aa:5<b.next)
  have J:(iF (nu l m)).length=l.length*4:=by rw[Ro (P7 l m),GO]
  simp(disch:=omega)only[go_sem,a,hi,sO,td f];refine use B ?_;unfold s4;cases d:(numOf s).isSome
  ·rw[p,d];simp(disch:=omega)only[go_sem,bw,aV,a,hi];refine bZ bU ?_ c;unfold rL;rw[aj (by rw[Gf l m 0 s i f d];omega)]
  ·obtain⟨q,t⟩:=Option.isSome_iff_exists.1 d;have r:=CH (nu l m) m (aV q) (P7 l m) rfl (by rw[GO];exact k);rw[p,d,v q t];simp only[aV]at r;simp(disch:=omega)only[go_sem,bw,aV,a,hi,b3,e,G,r];have E:aV q=aV (rv (l.getD m [])):=by rw[y,s9 t]
   refine⟨kb,?_,aa,fun j I u n=>?_⟩
   ·show cP.cells (iF ((nu l m).set m (aV q))) 0=_;rw[E,anF l m k]
   ·by_cases z:j=m
    ·subst z;rw[f]at n;cases n;exact d
    ·exact i j aa u n
 ·intro o b a hh ⟨e,w,i⟩;simp only[go_sem]at a;simp only[go_sem,a];have g:GT b:=hh.gt bU;rw[anE]at e;have A:rL l=.az [b4 aV (l.map rv),bO]:=by unfold rL;rw[ak (by rw[Gg l 0 i];decide)]
  rw[A]at c⊢;cases l with
  |nil=>exact⟨g,_,.az (.cons (.eW _ _ _) (.cons (.same _) .nil)),c,rfl⟩
  |cons q l=>
   refine⟨g,_,.az (.cons (.row (m:=(q::l).length*4) ?_ (by rw[cL];omega) ?_ (cD.refl (bC aV ((q::l).map rv)))) (.cons (.same _) .nil)),?_,by rw[b4,g5]⟩
   ·rw[fJ e,c_];exact iC (by rw[hG aV vU,g5])
   ·rw[af.qv,kD,aj aa,aj aa,aj aa]
   ·rw[b4,g5]at c;exact c
theorem Gv:∀ {a:List V}{n k j:Nat}{v:V}{l:List V},cq (eC a n) k=some l→cK l j=some v→cK a (n+j)=some v:=fun{a n k j v l} h e=>by
 rw[kG,e4]at h;rw[gF]at e⊢;split at h
 ·cases h;rw[List.getElem?_take,q5]at e;split at e
  ·exact e
  ·cases e
 ·cases h
theorem al6(n:Nat)(f:r9):∃z a,dy n (.leaf f)=ah z::a∧z≠1:=by
 rcases f with _|q|⟨c,e⟩
 ·exact⟨_,_,rfl,ag⟩
 ·exact⟨_,_,rfl,ag⟩
 ·cases c
  ·exact⟨_,_,rfl,ag⟩
  ·exact⟨_,_,rfl,ag⟩
def n9(a:List Rat)(i:Nat):Rat:=a.getD i 0
theorem ao_(n:Nat)(t:aO)(al:t.s≤3)(b:Rat)(c:List Rat)(V:∀i,i<t.s→t.v i<c.length)(R:∀x∈c,a_ 1000 x)(B:∀i,i<t.s→a_ 81 (t.a i)):c4 31 [.agg (eL t n b),n6 c] (ah (kI t (n9 c) t.s 0:Nat)):=by
 refine dm (.cons (.agg (BF t _ b)) (.cons (iN pg c) .nil)) (cV Tryz.f31 (h:=?_));have J:∀w:af,eF 6 (cZ.push (.cells (eL t n b) 0)) w→GT w∧w.get 5=.cells (eL t n b) 0:=fun w hh=>⟨hh.gt bU,by rw[hh.1 5 ag];simp only[go_sem]⟩
 simp only[go_sem,eL];refine bH (fun r q A=>∃m k,r=2*t.s+1-m∧m≤2*t.s∧t.s≤m+k∧kI t (n9 c) k m=kI t (n9 c) t.s 0∧rd 1 q=n6 c∧rd 2 q=.ptr 5 0∧eF 6 (cZ.push (.cells (eL t n b) 0)) A∧rd 5 q=ah (m:Int)) (2*t.s+1) ⟨0,t.s,rfl,bQ _,aa,rfl,?_,?_,.refl (aE 6),?_⟩ ?_
 iterate 2 simp only[go_sem]
 ·simp only[go_sem];rfl
 rintro r q A ⟨m,k,rfl,ad,ae,g,d,f,L,o⟩;obtain⟨K,p⟩:=J A L;have C:m<2*t.s+1:=aa;have P:t.gf[m]? =some (t.nd m):=by rw[aO.gf,iy,wG C];rfl
 have l:=ia (sY n) P;have ac:m<t.gf.length:=by rw[lD];exact C
 by_cases h:m<t.s
 ·rw[show t.nd m=.split (t.v m) (t.a m) (2*m+1) (2*m+2)from ak h]at l;have M:=vJ l;have y:∀j v,cK (dy n (.split (t.v m) (t.a m) (2*m+1) (2*m+2))) j=some v→cK (bC (dy n) t.gf) (m*9+j)=some v:=fun j v e=>Gv l e
  have F:=y 1 _ rfl;have G:=y 2 _ rfl;have bA:=y 3 _ rfl;have Z:=y 4 _ rfl;have U:=V m h;obtain⟨u,T,E⟩:=iM U;have S:n9 c (t.v m)=u:=by unfold n9;rw[bX,E];rfl
  have D:=ia vU E;have H:=xZ u (t.a m) (R u T) (B m h) ag;have Q:=Qa (t.a m) (pU (B m h) ag);obtain⟨k,rfl⟩:∃Y,k=Y+1:=⟨k-1,aa⟩;rw[kI,ak h,S]at g;simp(disch:=omega)only[go_sem,d,f,o,p,eL,n6,ff,M,F,G,D];refine use Q ?_;simp(disch:=omega)only[go_sem,d,f,o,p,eL,n6,ff,F,G,D];refine use H ?_;by_cases e:0<fL (u-t.a m)
  ·rw[aj aa]at g;simp(disch:=omega)only[go_sem,e,d,f,o,p,eL,ff,Z];refine⟨2*t.s+1-(2*m+2),aa,2*m+2,k,rfl,aa,aa,g,?_,?_,kb,?_⟩
   iterate 3 simp only[go_sem,d,n6,f]
  ·rw[ak aa]at g;simp(disch:=omega)only[go_sem,e,d,f,o,p,eL,ff,bA];refine⟨2*t.s+1-(2*m+1),aa,2*m+1,k,rfl,aa,aa,g,?_,?_,kb,?_⟩
   iterate 3 simp only[go_sem,d,n6,f]
 ·have O:kI t (n9 c) k m=m:=by
   cases k with
   |zero=>rfl
   |succ k=>rw[kI,aj h]
  rw[O]at g;rw[show t.nd m=.leaf (t.fI m)from aj h]at l;obtain⟨z,cs,W,X⟩:=al6 n (t.fI m);rw[W]at l;have N:=vJ l;have I:(z=1)=False:=eq_false X;simp(disch:=omega)only[go_sem,d,f,o,p,eL,ff,N,I];exact bZ K (by rw[←g]) (.int _ _)
def ql(l:List cc)(a:List Rat):Bool:=(oW l.length).all fun i=> !gr (n9 a i) (l.getD i gR)
theorem ao9(l:List cc)(b:List Rat)(hl:l.length≤1000)(Q:l.length≤b.length)(y:∀x∈b,a_ 1000 x)(K:∀s∈l,iK 1000 s):c4 30 [c6 l,n6 b] (.bool (ql l b)):=by
 refine dm (.cons (lq l) (.cons (iN pg b) .nil)) (cV Tryz.f30 (h:=?_));simp only[go_sem,c6,n6];refine each l.length [1,7,8] 5 (fun m _ _=>∀j,j<m→gr (n9 b j) (l.getD j gR)=false) ?_ ?_ aa ag (aE 5) (fun _ _ _ _ _ _ h=>h) (fun _ h=>(ke _ h).elim) ?_ ?_
 iterate 2 simp only[go_sem]
 ·intro m E F v a hh hi k;simp only[go_sem]at a;have g:=hh.gt bU;obtain⟨x,L,z⟩:=iM v;have M:m<b.length:=aa;obtain⟨u,C,A⟩:=iM M;have D:l.getD m gR=x:=by rw[bX,z];rfl
  have B:n9 b m=u:=by unfold n9;rw[bX,A];rfl
  have G:gr u x=true→ql l b=false:=fun e=>List.all_eq_false.2 ⟨m,List.mem_range.2 v,by rw[D,B,e];decide⟩
  have f:gr u x=false→∀j,j<m+1→gr (n9 b j) (l.getD j gR)=false:=fun e j t=>by
   by_cases J:j=m
   ·subst J;rw[D,B];exact e
   ·exact k j aa
  obtain⟨N,O⟩:=K _ L;have d:=ia l8 z;have o:=ia vU A;have P:=hh.2;have I:=xZ u x.lo (y u C) N ag;have r:=xZ u x.hi (y u C) O ag;obtain⟨lo,n,q,i⟩:=x;simp only[ez,aV,eS,eI]at d;have p:∀ {H:af},GT H→gr u ⟨lo,n,q,i⟩=true→GT H∧∃w,bR H (cZ.mz H.next) aD w∧bz w∧w=.bool (ql l b):=fun g e=>bZ g (by rw[G e]) (.bool _)
  cases q
  ·cases i
   ·simp(disch:=omega)only[go_sem,a,hi,ff,d];exact⟨kb,f rfl⟩
   ·simp(disch:=omega)only[go_sem,a,hi,ff,d,o];refine use r ?_;by_cases e:0<fL (u-n)
    ·simp only[go_sem,e,a,hi];exact p bU (by unfold gr;simp[e])
    ·simp only[go_sem,e,a,hi];exact⟨kb,f (by unfold gr;simp[e])⟩
  ·simp(disch:=omega)only[go_sem,a,hi,ff,d,o];refine use I ?_;by_cases c:fL (u-lo)<0
   ·simp only[go_sem,c,a,hi];exact p bU (by unfold gr;simp[c])
   ·cases i
    ·simp only[go_sem,c,a,hi];exact⟨kb,f (by unfold gr;simp[c])⟩
    ·simp(disch:=omega)only[go_sem,c,a,hi,ff,d,o];refine use r ?_;by_cases e:0<fL (u-n)
     ·simp only[go_sem,e,a,hi];exact p bU (by unfold gr;simp[e])
     ·simp only[go_sem,e,a,hi];exact⟨kb,f (by unfold gr;simp[e,c])⟩
 ·intro E F a hh k;simp only[go_sem];refine bZ (hh.gt bU) ?_ (.bool _);rw[show ql l b=true from sg.2 fun j t=>by rw[k j (List.mem_range.1 t)];rfl]
theorem QE{k:Nat}(h:k≤4):a_ 3 (nL k (4:Nat)):=by
 rw[u5];obtain⟨a,b⟩:=mk_le (k:Int) (m:=4) ag;exact⟨aa,aa⟩
theorem Sx(k:Nat):nL (k:Int) (4:Nat)=(k:Rat)/4:=by
 rw[Rat.divInt_eq_div];rfl
theorem TB(l:List Int)(hl:l.length≤400)(A:hL l)(s:cc)(a b:Nat)(K:a+b≤1000)(d:a_ a s.lo)(e:a_ b s.hi)(u:s.hl=true→s.hh=true→s.lo<s.hi):kT l 77 [.agg (ez s)] fun v=>∃q:Rat,a_ (a+b+7) q∧qk q s∧v=bw q:=by
 refine nD (.cons (.agg (N0 s)) .nil) fun i hi=>cV Tryz.f77 (h:=?_)
 obtain⟨lo,c,m,g⟩:=s;change a_ a lo at d;change a_ b c at e;change m=true→g=true→lo<c at u;simp only[go_sem,ez,aV,eS,eI];refine eX (lE l hl A 3 ag) ag hi ?_ ?_
 ·simp only[go_sem,lT,cX]
 rintro _ y ⟨k,L,rfl⟩ p;simp(disch:=omega)only[go_sem,aH];refine use (tZ _ aa) ?_;simp only[go_sem];refine use (tZ _ aa) ?_;simp only[go_sem];refine use (xC (1+(k:Int)) 4 aa (yg aa) (yg aa)) ?_;have z:nL (1+(k:Int)) 4=((1+k:Nat):Rat)/4:=by rw[←Sx];congr 1
 have f:a_ 3 (nL (1+(k:Int)) 4):=by have h:=QE (k:=1+k) aa;rwa[(aa:((1+k:Nat):Int)=1+(k:Int))]at h
 have H:0<nL (1+(k:Int)) 4∧nL (1+(k:Int)) 4<1:=by
  rw[z];have:k=0∨k=1∨k=2:=aa;rcases this with rfl|rfl|rfl<;>decide+kernel
 have I:a_ 3 (1-nL (1+(k:Int)) 4):=by
  have h:=QE (k:=3-k) aa;rwa[Sx,show((3-k:Nat):Rat)/4=1-((1+k:Nat):Rat)/4 by
   have:k=0∨k=1∨k=2:=aa;rcases this with rfl|rfl|rfl<;>decide+kernel,←z]at h
 generalize nL (1+(k:Int)) 4=w at*
 have n:∀(q:Rat) (t:af) (o:cP) (j:Nat),j≤l.length→o=.cells (cB l j) 0→a_ (a+b+7) q→qk q ⟨lo,c,m,g⟩→∃x v,x≤l.length∧o=.cells (cB l x) 0∧bR t (af.one 5 t.next (cB l x)) (bw q) v∧bz v∧∃q:Rat,a_ (a+b+7) q∧qk q ⟨lo,c,m,g⟩∧v=bw q:=fun q t o j F D B C=>⟨j,_,F,D,.same _,fX _,q,B,C,rfl⟩
 have r:∀ {P:Prop},false=true→P:=fun h=>by cases h
 cases m
 ·cases g
  ·simp only[go_sem,cX,lV,lO,lX,m8,jL,c_,mK,lp];refine eX (GP l hl A) ag p ?_ ?_
   ·simp only[go_sem,cX]
   rintro _ J ⟨q,G,rfl⟩ E;simp only[go_sem,cX,lV,lO,lX,m8,jL,c_,mK,lp];exact n q _ _ J E rfl (G.mono aa) ⟨r,r⟩
  ·simp only[go_sem,cX,lV,lO,lX,m8,jL,c_,mK,lp];refine use (HJ c w e f aa) ?_;simp only[go_sem,cX,lV,lO,lX,m8,jL,c_,mK,lp];exact n _ _ _ y p rfl ((e.sub f).mono aa) ⟨r,fun _=>by show c-w<c;grind⟩
 ·cases g
  ·simp only[go_sem,cX,lV,lO,lX,m8,jL,c_,mK,lp];refine use (xY lo w d f aa) ?_;simp only[go_sem,cX,lV,lO,lX,m8,jL,c_,mK,lp];exact n _ _ _ y p rfl ((d.add f).mono aa) ⟨fun _=>by show lo<lo+w;grind,r⟩
  ·have u:=u rfl rfl;simp only[go_sem,cX,lV,lO,lX,m8,jL,c_,mK,lp];refine use (HJ c lo e d aa) ?_;simp only[go_sem,cX,lV,lO,lX,m8,jL,c_,mK,lp];refine use (Rk w (c-lo) f (e.sub d) aa) ?_;simp only[go_sem,cX,lV,lO,lX,m8,jL,c_,mK,lp];refine use (xY lo (w*(c-lo)) d (f.mul (e.sub d)) aa) ?_;simp only[go_sem,cX,lV,lO,lX,m8,jL,c_,mK,lp];have M:0<w*(c-lo):=Rat.mul_pos H.1 (by show 0<c-lo;grind);have N:0<(1-w)*(c-lo):=Rat.mul_pos (by grind) (by show 0<c-lo;grind);refine n _ _ _ y p rfl ?_ ⟨fun _=>by show lo<lo+w*(c-lo);grind,fun _=>by show lo+w*(c-lo)<c;grind⟩;have:=(I.mul d).add (f.mul e);rw[show(1-w)*lo+w*c=lo+w*(c-lo) by grind]at this;exact this.mono aa
theorem Aj{n:Nat}{d g:List V}{v:V}(i:cI c a h b)(s:cC g b u=some d)(p:bg v=true)(m:cellsOf v=g)(q:bn (cr g) n=true)(r:cG g=true):oL n [.ptr a u,v] c=some (V.undef,af.wr c a h d):=by
 obtain⟨f,k,_⟩:=i.bB;obtain⟨e,o⟩:∃e,h=e+1:=⟨h-1,by have:=i.ne;omega⟩;have l:=i.row;show aQ (and (bg v) (bn (cr (cellsOf v)) n)) (ao (c.e5 a u (cellsOf v)) fun c=>some (V.undef,c))=_;rw[p,m,q];unfold af.e5;rw[l];show aQ true (ao (aQ (cG g) (ao (cC g b u) fun d=>Nat.rec (motive:=fun _=>Option af) (some (c.set a (.cells d 0))) (fun _ _=>cP.casesOn (motive:=fun _=>Option af) (c.get h) aM (fun _ _=>aM) (fun j _=>aQ (bn j a) (some ((c.set a (.cells d h)).set h (.bB a a)))) (fun _=>aM)) h)) fun c=>some (V.undef,c))=_;rw[s,r];subst o;show aQ true (ao (aQ true (cP.casesOn (motive:=fun _=>Option af) (c.get (e+1)) aM (fun _ _=>aM) (fun j _=>aQ (bn j a) (some ((c.set a (.cells d (e+1))).set (e+1) (.bB a a)))) (fun _=>aM))) fun c=>some (V.undef,c))=_;rw[k];show aQ true (ao (aQ true (aQ (bn a a) (some ((c.set a (.cells d (e+1))).set (e+1) (.bB a a))))) fun c=>some (V.undef,c))=_;rw[sn];rfl
theorem z9{d:f→List V}(p:∀a,(d a).length=h)(g:List V)(o:Nat):∀(l:List f) (i:Nat) (a b:f),l[i]? =some a→cC g (d a) o=some (d b)→cC g (bC d l) (i*h+o)=some (bC d (l.set i b))
 |[],_,_,_,j,_=>by cases j
 |c::l,0,a,b,j,e=>by
  cases j;rw[lC]at e⊢;split at e
  ·rename_i n;rw[jb,dK,ak (by show o+g.length≤(d c++bC d l).length;rw[aS];omega)];show some ((d c++bC d l).take o++g++(d c++bC d l).drop (o+g.length))=some (d b++bC d l);rw[←Option.some.inj e,yM aa,List.drop_append_of_le_length n];simp[eJ]
  ·cases e
 |c::l,i+1,a,b,j,e=>by
  have k:=z9 p g o l i a b j e;rw[lC]at k⊢;have q:=p c;have m:(i+1)*h+o=(d c).length+(i*h+o):=by rw[oe,q];omega
  split at k
  ·rename_i n;rw[ak (by show(i+1)*h+o+g.length≤(d c++bC d l).length;rw[aS,m];omega)];show some ((d c++bC d l).take ((i+1)*h+o)++g++(d c++bC d l).drop ((i+1)*h+o+g.length))=some (d c++bC d (l.set i b));rw[m,List.take_length_add_append,jl,List.drop_length_add_append,←Option.some.inj k];simp[eJ]
  ·cases k
theorem NH{bytes:Nat}(f:c.get h=.cells [] 0)(l:0<u)(g:b.length=u*a)(j:u≤1073741824∧bytes≤1024)
 (k:∀d,cI d c.next (c.next+1) b→(∀y,y<c.next→d.get y=c.get y)→d.next=c.next+2→e (put m i (.slice c.next 0 u (.grown a))) d):gj i e m (fH a bytes [.slice h 0 0 (.known 0),.row u b] c):=by
 refine Bu f l g j (k _ ⟨?_,⟨c.next,?_,aE _⟩,uY _⟩ (fun y n=>?_) rfl)
 ·rw[af.bf,aj (by show¬(c.next+1=c.next);omega),af.bf,ak rfl]
 ·rw[af.bf,ak (show(c.push (cP.cells b (c.next+1))).next=c.next+1 from rfl)]
 ·rw[af.bf,aj (by show¬(c.next+1=y);omega),af.bf,aj aa]
theorem Pt{b:f→List V}(e:∀a,(b a).length=h)(g:0<h){m:List f}(i:m.length=L)(d:cI c u (u+1) (bC b m))(n:u+1<c.next):bR c (af.zero c.next) (.slice u 0 L (.grown h)) (b4 b m):=by
 subst i;obtain⟨r,j,k⟩:=d.bB;exact oB e g (.cells d.row j k d.ne (hG b e m) aa aa) (cD.refl _) (fun y l o=>af.e7 _ _) (hG b e m)
def nV(l:List cc)(i:Nat)(q:Rat):List cc×List cc:=(l.set i { l.getD i gR with hi:=q,hh:=true },l.set i { l.getD i gR with lo:=q,hl:=true })
set_option maxHeartbeats 1000000 in
theorem BT(l:List cc)(hl:0<l.length∧l.length≤1000)(i:Nat)(hi:i<l.length)(q lo c:Rat)(a b:Bool)(x:l[i]? =some ⟨lo,c,a,b⟩)(F:Fr)(H:af)(k:rd 0 F=c6 l)(r:rd 1 F=ah (i:Int))(t:rd 5 F=.ptr 5 0)(O:H.get 5=.cells (aV q) 0)(m:H.next=7):
 bx (pc 45 3) (gk (uw om) fun S o=>∃v,bR o (af.zero o.next) S v∧bz v∧v=.az [c6 (l.set i ⟨lo,q,a,true⟩),c6 (l.set i ⟨q,c,true,b⟩),bO]) F H:=by
 have J:=hG ez l8 l;have w:(0:Int)≤(i:Int)∧(i:Int)<((l.length:Nat):Int):=aa;change rd 0 F=b4 ez l at k;unfold b4 at k;simp only[go_sem,ai 45 om 3,ai 45 om 2,ai 45 om 1,ai 45 om 0,IL om,c6,k,m];refine NH (by simp only[go_sem,m]) hl.1 J ⟨aa,ag⟩ fun o B z g=>?_
 simp only[go_sem,m]at B z g;simp only[go_sem,k,g,m];refine NH (by simp only[go_sem,g]) hl.1 J ⟨aa,ag⟩ fun e D n N=>?_
 simp only[go_sem,g]at D n N;have qt:e.get 5=.cells (aV q) 0:=by rw[n 5 ag,aj ag,z 5 ag,aj ag];exact O
 have C:=B.keep (H':=e) (by rw[n 8 ag,aj ag]) (by rw[n 9 ag,aj ag]);have K:=Aj (v:=bw q) C (z9 l8 (aV q) 4 l i _ ⟨lo,q,a,b⟩ x rfl) rfl rfl rfl (n:=4) rfl;have u:∀ {s:cc},(l.set i s)[i]? =some s:=fun{_}=>by rw[List.getElem?_set_self hi]
 have G:=C.written (bC ez (l.set i ⟨lo,q,a,b⟩));have L:=Aj (v:=bO) G (z9 l8 [bO] 9 _ i _ ⟨lo,q,a,true⟩ u rfl) rfl rfl rfl (n:=1) rfl;simp only[aV]at qt;simp only[bw,aV]at K;simp only[List.set_set]at L;simp only[go_sem,r,t,qt,b3 w,K,L];obtain⟨d,h⟩:∃d,d=af.wr (af.wr e 8 9 (bC ez (l.set i ⟨lo,q,a,b⟩))) 8 9 (bC ez (l.set i ⟨lo,q,a,true⟩)):=⟨_,rfl⟩;have bA:∀y,y≠8→y≠9→d.get y=e.get y:=fun y a b=>by rw[h,nU a b,nU a b]
 have P:cI d 8 9 (bC ez (l.set i ⟨lo,q,a,true⟩)):=by rw[h];exact G.written _
 have E:=D.keep (bA 11 ag ag) (bA 12 ag ag);have vr:=(bA 5 ag ag).trans qt;rw[←h];have p:=Aj (v:=bw q) E (z9 l8 (aV q) 0 l i _ ⟨q,c,a,b⟩ x rfl) rfl rfl rfl (n:=4) rfl;have I:=E.written (bC ez (l.set i ⟨q,c,a,b⟩));have M:=Aj (v:=bO) I (z9 l8 [bO] 8 _ i _ ⟨q,c,true,b⟩ u rfl) rfl rfl rfl (n:=1) rfl;simp only[bw,aV]at p;simp only[List.set_set,cE]at p M;simp only[go_sem,r,t,vr,b3 w,g,cE,p,M];obtain⟨f,j⟩:∃f,f=af.wr (af.wr d 11 12 (bC ez (l.set i ⟨q,c,a,b⟩))) 11 12 (bC ez (l.set i ⟨q,c,true,b⟩)):=⟨_,rfl⟩;have A:∀y,y≠11→y≠12→f.get y=d.get y:=fun y a b=>by rw[j,nU a b,nU a b]
 have R:cI f 11 12 (bC ez (l.set i ⟨q,c,true,b⟩)):=by rw[j];exact I.written _
 have Q:=P.keep (A 8 ag ag) (A 9 ag ag);have T:f.next=13:=by rw[j,←N,←show d.next=e.next by rw[h];rfl];rfl
 rw[←j];exact⟨_,.az (.cons (Pt l8 ag (gT ..) Q aa) (.cons (Pt l8 ag (gT ..) R aa) (.cons (.same _) .nil))),.az (.cons (lq _) (.cons (lq _) (.cons (.bool _) .nil))),rfl⟩
theorem Q6(l:List cc)(hl:0<l.length∧l.length≤1000)(i:Nat)(hi:i<l.length)(q:Rat)(k:a_ 1000 q)(p:∀s∈l,iK 1000 s)(j:qk q (l.getD i gR)):aW 45 [c6 l,ah (i:Int),bw q] (.az [c6 (nV l i q).1,c6 (nV l i q).2,bO]):=by
 refine jy (.cons (lq l) (.cons (.int _ _) (.cons (fX q) .nil))) (KQ om (h:=?_));obtain⟨x,r,a⟩:=iM hi;have m:l.getD i gR=x:=by rw[bX,a];rfl
 rw[m]at j;obtain⟨t,u⟩:=j;obtain⟨v,w⟩:=p _ r;have b:=ia l8 a;have o:=xZ q x.lo k v ag;have e:=xZ q x.hi k w ag;have f:x.hl=true→fL (q-x.lo)=1:=fun h=>Rx (t h)
 have g:x.hh=true→fL (q-x.hi)= -1:=fun h=>CM (u h)
 have hh:nV l i q=(l.set i ⟨x.lo,q,x.hl,true⟩,l.set i ⟨q,x.hi,true,x.hh⟩):=by unfold nV;rw[m]
 rw[hh];obtain⟨lo,c,n,d⟩:=x;simp only[ez,aV,eS,eI]at b;simp only[go_sem,aU 45 om,bw,aV];cases n
 ·cases d
  ·simp(disch:=omega)only[go_sem,ai 45 om 5,ai 45 om 4,c6,ff,b];refine BT l hl i hi q lo c _ _ a _ _ ?_ ?_ ?_ ?_ ?_
   all_goals(simp only[go_sem];try rfl)
  ·simp(disch:=omega)only[go_sem,ai 45 om 5,ai 45 om 4,c6,ff,b];refine use e ?_;simp only[go_sem,g rfl];refine BT l hl i hi q lo c _ _ a _ _ ?_ ?_ ?_ ?_ ?_
   all_goals(simp only[go_sem];try rfl)
 ·simp(disch:=omega)only[go_sem,ai 45 om 5,ai 45 om 4,c6,ff,b];refine use o ?_;cases d
  ·simp only[go_sem,f rfl];refine BT l hl i hi q lo c _ _ a _ _ ?_ ?_ ?_ ?_ ?_
   all_goals(simp only[go_sem];try rfl)
  ·simp only[go_sem,f rfl];refine use e ?_;simp only[go_sem,g rfl];refine BT l hl i hi q lo c _ _ a _ _ ?_ ?_ ?_ ?_ ?_
   all_goals(simp only[go_sem];try rfl)
theorem Bw:aW 125 [.agg [ah 0,.an,.an]] bO:=by
 refine jy (.cons (.agg (.cons (.int _ _) (.cons .an (.cons .an .nil)))) .nil) (cV Tryz.f125 (h:=?_));simp only[go_sem];exact jf rfl (.bool _)
@[go_sem]theorem au'(n:Nat)(l:List (List ax)):bg (fZ n l)=true∧cellsOf (fZ n l)=[fZ n l]∧V.one (fZ n l)=true:=⟨rfl,rfl,rfl⟩
@[go_sem]theorem avf(o:List ax):bg (bG o)=true∧cellsOf (bG o)=[bG o]∧V.one (bG o)=true:=⟨rfl,rfl,rfl⟩
@[go_sem]theorem avc(s:List cc):bg (c6 s)=true∧cellsOf (c6 s)=[c6 s]∧V.one (c6 s)=true:=⟨rfl,rfl,rfl⟩
@[go_sem]theorem kn_wplb(n:Nat)(l:List (List ax)):bg (cA n l)=true∧cellsOf (cA n l)=[cA n l]∧V.one (cA n l)=true:=⟨rfl,rfl,rfl⟩
@[go_sem]theorem au7(n:Nat):bg (eV n)=true∧cellsOf (eV n)=[eV n]∧V.one (eV n)=true:=⟨rfl,rfl,rfl⟩
structure fu (g:Nat) (H H':af):Prop where
 a:∀y,y<H.next→(∀cs,H.get y≠ .cells cs 0)→(g=0∨y≠g)→H'.get y=H.get y
 n:H.next≤H'.next
theorem fu.refl:fu a c c:=⟨fun _ _ _ _=>rfl,aE _⟩
theorem fu.set(b:fu h c H){cs:List V}(g:H.get u=.cells cs 0)(o:cP):fu h c (H.set u o):=
 ⟨fun y i d f=>by
   have e:=b.a y i d f;rw[af.aK,aj (by rintro rfl;exact d cs (e.symm.trans g))];exact e,b.n⟩
theorem fu.trans{g:af}(d:fu h c H)(i:fu u H g)(e:u=0∨u=h∨c.next≤u):fu h c g:=
 ⟨fun y j f l=>by
   have k:=d.a y j f l;rw[←k]at f⊢;exact i.a y (eG j d.n) f aa,cy d.n i.n⟩
theorem fu.app(d:∀y,y<c.next→(a=0∨y≠a)→H.get y=c.get y)(e:c.next<H.next):fu a c H:=⟨fun y f _ b=>d y f b,g8 e⟩
theorem fu.low(b:∀y,y<c.next→H.get y=c.get y)(d:c.next≤H.next):fu a c H:=⟨fun y e _ _=>b y e,d⟩
theorem fu.to(b:fu 0 c H):fu h c H:=⟨fun y e d _=>b.a y e d (.inl rfl),b.n⟩
theorem aI.yU{v:V}{y:List V}{g:Nat}(p:aI c h v b L)(q:aI c u s y g)(a:fu g c H)(e:L=0∨L≠g):aI H h v b L:=by
 cases p with
 |nil=>exact .nil
 |cells i k t j w hl r=>
  rename_i l m f;have C:=a.n;refine .cells ?_ ?_ t j w aa aa
  ·rw[a.a l r (fun o d=>by rw[i]at d;cases d;exact j rfl) ?_];exact i;cases q with
   |nil=>exact .inl rfl
   |cells kb x aR z bg B A=>exact .inr fun d=>by rw[d,x]at i;cases i
  ·rw[a.a L hl (fun o d=>by rw[k]at d;cases d) aa];exact k
theorem aI.qi{v:V}(d:aI c h v b u)(a:fu 0 c H):aI H h v b u:=aI.yU d (aI.nil (sz:=1)) a aa
theorem aI.lt{v:V}(d:aI c a v b h):h=0∨h<c.next:=by
 cases d with
 |nil=>exact .inl rfl
 |cells f j i e k hl g=>exact .inr hl
theorem aI.ps{v:V}(e:aI c a v b h)(d:List V)(o:cP):aI ((c.push (.cells d 0)).set c.next o) a v b h:=(e.push _).set (by rw[af.bf,ak rfl]) o
def SZ(a b:af):Prop:=∀y c k,k≠0→a.get y=.cells c k→b.get y=.none
def j9(H:af)(g:Nat)(c d:List V):Prop:=∀a b,SZ a b→fu g H a→cD a b c d
theorem j9.nil:j9 c a [] []:=fun _ _ _ _=>.nil
theorem Ot:∀ {d f e g:List V},cD c H d f→cD c H e g→cD c H (d++e) (f++g)
 |_,_,_,_,.nil,h=>h
 |_,_,_,_,.cons a b,h=>.cons a (Ot b h)
theorem j9.app{xs ys f:List V}(g:j9 c h xs ys)(i:j9 c h b f):j9 c h (xs++b) (ys++f):=fun d e n a=>Ot (g d e n a) (i d e n a)
theorem j9.step{d:List V}(j:j9 c h b d)(a:fu h c H)(e:u=0∨u=h∨c.next≤u):j9 H u b d:=fun f g n i=>j f g n (a.trans i e)
theorem aI.zz{k:Nat}{v:V}{p:List V}{BP:Nat}(f:aI c k v b BP)(i:aI c h s p L)(e:BP=0∨BP≠L)(d:0<k)(l:b.length=u*k):j9 c L [v] [.row u b]:=fun q r o a=>by
 obtain⟨m,h,n⟩:=(aI.yU f i a e).di d (fun y g j=>o y _ _ g j) (cD.refl _);have:m=u:=Nat.eq_of_mul_eq_mul_right d (n.trans l);rw[this]at h;exact .cons h .nil
theorem NI{bytes n:Nat}{cs:List V}(t:c.get u=.cells [] 0)(w:0<h)(j:cs.length=n*h)(v:n≤1073741824∧bytes≤1024)
 (k:∀b d,(∀y,y<c.next→d.get y=c.get y)→c.next≤d.next→bg b=true∧cellsOf b=[b]∧V.one b=true→(∀f l o p g,fu 0 d f→aI f l o p g→(g=0∨g<c.next)→j9 f g [b] [.row n cs])→e (put m i b) d):
 gj i e m (fH h bytes [.slice u 0 0 (.known 0),.row n cs] c):=by
 by_cases r:0<n
 ·refine Bu t r j v (k _ _ (fun y A=>?_) ?_ ⟨rfl,rfl,rfl⟩ fun f l o p g a s z=>?_)
  ·rw[af.bf,aj (by show¬(c.next+1=y);omega),af.bf,aj aa]
  ·show c.next≤c.next+1+1;omega
  ·refine aI.zz (k:=h) (BP:=c.next+1) (aI.qi (.cells (f:=c.next) ?_ ?_ (aE _) (uY _) j ?_ ?_) a) s aa w j
   ·rw[af.bf,aj (by show¬(c.next+1=c.next);omega),af.bf,ak rfl]
   ·rw[af.bf,ak (show(c.push (cP.cells cs (c.next+1))).next=c.next+1 from rfl)]
   ·show c.next+1<c.next+1+1;omega
   ·show c.next<c.next+1+1;omega
 ·have:n=0:=aa;subst this;have:cs=[]:=List.length_eq_zero_iff.1 aa;subst this;have q:dQ 0 h=0:=jb h;show gj i e m (ao (cq ([]:List V) (dQ 0 h)) fun x=>jX h bytes (.slice u 0 0 (.known 0)) 0 x c);rw[q];exact k (.slice u 0 0 (.known 0)) c (fun _ _=>rfl) (aE _) ⟨rfl,rfl,rfl⟩ fun _ _ _ _ _ _ _ _ _ _ _ _=>.cons (.eW _ _ _) .nil
theorem Ny{a e k l:Nat}(j:Nat)(g:List Nat)(B:Nat)(E:Nat→Fr→af→Prop)
 (hi:rd h m=ah (j:Int)) (hl:j<1000000000) (G:h∉g∧a∉g∧u∉g∧L∉g∧e∉g∧h≠a∧h≠u∧h≠L∧h≠e∧L≠e∧a≠u) (D:B≤c.next)
 (i:∀b m c t v,t=a∨t=u∨t=L∨t=e∨t=h→E b m c→E b (put m (some t) v) c) (A:E j m c)
 (step:∀b d f,b<j→kg g d m→eF B c f→rd h d=ah ((b+1:Nat):Int)→E (b+1) d f→bx M (iT l (wS g B h (b+1) m c (E b) (iT k F))) d f)
 (C:∀d f,kg g d m→eF B c f→E 0 d f→F .norm d f):
 bx (.loop (.seq (.seq (.bN [ex a (mv (rd h)),ex u (bi .gtr (rd a) (kc (ah 0)))]) (.cond (rd u) .skip (.exit k))) (.seq (.block l M) (.bN [ex L (mv (rd h)),ex e (bi .sub (rd L) (kc (ah 1))),ex h (bS (rd e))])))) (iT k F) m c:=by
 obtain⟨N,O,P,Q,R,y,z,d3,U,V,d6⟩:=G;refine bH (fun r d f=>r≤j∧kg g d m∧eF B c f∧rd h d=ah (r:Int)∧E r d f) j ⟨aE _,uD.2 fun _ _=>rfl,.refl D,hi,A⟩ ?_;rintro r d f ⟨W,H,hh,p,s⟩;have w:=fun S T=>uE P (v:=T) (uE O (v:=S) H)
 cases r with
 |zero=>
  simp only[go_sem,p,show((0:Int)<((0:Nat):Int))=False from eq_false aa];exact C _ _ (w _ _) hh (i _ _ _ _ _ (.inr (.inl rfl)) (i _ _ _ _ _ (.inl rfl) s))
 |succ b=>
  simp only[go_sem,p,show((0:Int)<((b+1:Nat):Int))=True from eq_true aa];refine Go.au.wp_mono M (fun x n o=>DY (fun x n o q=>?_) x n o) (step b _ f aa (w _ _) hh ?_ (i _ _ _ _ _ (.inr (.inl rfl)) (i _ _ _ _ _ (.inl rfl) s)))
  ·cases x with
   |norm=>
    obtain⟨J,l,bA,K⟩:=q;have I:aC .i64 (((b+1:Nat):Int)-1)=(b:Int):=by rw[aH _ aa];omega
    show bx (.bN _) _ n o;simp only[go_sem,bA,I];exact⟨b,mm b,aa,uE N (uE R (uE Q J)),l,by simp only[go_sem],i _ _ _ _ _ (.inr (.inr (.inr (.inr rfl)))) (i _ _ _ _ _ (.inr (.inr (.inr (.inl rfl)))) (i _ _ _ _ _ (.inr (.inr (.inl rfl))) K))⟩
   |ret=>exact q
   |exit e=>exact q
  ·rw[qK (Ne.symm z),qK (Ne.symm y)];exact p
theorem R6{l:List f}{a:f}(b:l[h]? =some a):l.take (h+1)=l.take h++[a]:=by rw[List.take_add_one,b];rfl
theorem x4{b:f→List V}{l:List f}{a:f}(c:l[h]? =some a):bC b (l.take (h+1))=bC b (l.take h)++b a:=by
 rw[R6 c,qL];show _++(b a++[])=_;rw[fG]
def uB(n:Nat)(p:qf):List V:=[b6 p.is,b4 (ki n) p.iG]
theorem HG(n:Nat)(p:qf):(uB n p).length=2:=rfl
theorem agW(n:Nat)(p:qf):bY (uB n p):=.cons (oy p.is) (.cons (iN (FT n) p.iG) .nil)
def nA(n:Nat)(c:oR):List V:=[ah 1,b4 (uB n) c.ps,b4 (iX n) c.ms]
theorem BB(n:Nat)(c:oR):bY (nA n c):=.cons (.int _ _) (.cons (iN (agW n) c.ps) (.cons (iN (vo n) c.ms) .nil))
theorem uF(n:Nat)(p:List ax):(iX n p).length=4:=rfl
theorem yp{l:List f}:l.take l.length=l:=List.take_length
theorem Ge(l:List Nat):(cv l).length=l.length*1:=by simp[cv]
theorem aqt(n:Nat)(s:m7):cG (k5 n s)=true:=rfl
theorem aqE(n:Nat)(p:List ax):cG (iR n p)=true:=rfl
theorem asa(b:Nat)(hn:b=1∨b=2)(k e:Nat)(c:oR)(O:c.aA b k e)(he:e≤16):aW 197 [.agg (nA b c)] (.az [.agg (jJ b c),bO]):=by
 have dC:=O.Gx;have dv:=O.lm;refine jy (.cons (.agg (BB b c)) .nil) (cV Tryz.f197 (h:=?_));have c1:((64:Int)<(c.ps.length:Int))=False:=eq_false aa;simp only[go_sem,nA,c1];refine each c.ps.length [1,2,3,4,21,22] 7 (fun m F H=>rd 5 F=bO∧8≤H.next∧∃v C g,H.get 7=.cells [ah 1,v,.an] 0∧aI H 2 v C g∧j9 H g C (bC (n4 b) (c.ps.take m))∧C.length=m*2∧(g=0∨7<g)) ?_ ?_ aa ag (mh rfl) ?_ ?_ ?_ ?_
 iterate 2 simp only[go_sem]
 ·rintro m F H t v h ⟨D,L⟩;exact⟨by rw[qK aa];exact D,L⟩
 ·exact⟨by simp only[go_sem],aE 8,.an,[],0,by simp only[go_sem],.nil,.nil,rfl,.inl rfl⟩
 ·rintro m b0 H1 hm u hh hi ⟨a4,h8,v,C,g,br,P,al,bb,ce⟩;simp only[go_sem]at u;obtain⟨a,ad,N⟩:=iM hm;have hr:=ia (HG b) N;have hp:=O.ps a ad;have dT:=hp.li;have d0:=hp.ls;have T:=b8 (aa:H1.next<H1.next+1)
  have bv:=b8 (aa:7<H1.next)
  simp(disch:=omega)only[go_sem,u,hi,ff,hr,uB,T,bv];refine NI (n:=a.is.length) (cs:=cv a.is) ?_ ag (Ge _) ⟨aa,ag⟩ fun Z p k1 k2 ⟨bA,ar,R⟩ ci=>?_
  ·simp only[go_sem]
  simp only[go_sem]at k1 k2;have du:p.get 7=.cells [ah 1,v,.an] 0:=by rw[k1 7 aa];simp only[go_sem,bv,br,b8 (aa:7<H1.next+1)]
  have da:p.get H1.next=.cells [b6 a.is,b4 (ki b) a.iG] 0:=by rw[k1 _ aa];simp only[go_sem,T]
  have nb:=b8 (aa:H1.next<p.next)
  have c2:((256:Int)<(a.iG.length:Int))=False:=eq_false aa;simp only[go_sem,bA,ar,R,nb,da,a4,c2];have bi:eF H1.next H1 p:=⟨fun y l=>by rw[k1 y aa];simp only[go_sem,b8 (aa:y<H1.next+1),b8 l],aa⟩
  refine each a.iG.length [1,2,3,4,7,8,21,22,23,40,41] p.next (fun j F H=>rd 5 F=bO∧p.next<H.next∧∃o x,H.get p.next=.cells [Z,o] 0∧aI H 7 o (bC (k5 b) (a.iG.take j)) x∧(x=0∨p.next<x)) ?_ ?_ aa ag (by simp only[go_sem];omega) ?_ ?_ ?_ ?_
  iterate 2 simp only[go_sem]
  ·rintro m F H t v h ⟨D,L⟩;exact⟨by rw[qK aa];exact D,L⟩
  ·exact⟨by simp only[go_sem],mm _,.an,0,by simp only[go_sem],.nil,.inl rfl⟩
  ·rintro j a3 f hj d A Q ⟨E,dk,o,x,G,i,a7⟩;simp only[go_sem,u]at d;obtain⟨s,cs,hs⟩:=iM hj;have cp:=ia (x6 b) hs;have m1:=b8 (aa:p.next<f.next)
   have bs:=b8 (aa:5<f.next)
   have I:=b8 (aa:7<f.next)
   have ab:f.get 5=.cells (nA b c) 0:=by
    rw[A.1 5 aa];simp only[go_sem,b8 (aa:5<p.next)]
    rw[bi.1 5 aa,hh.1 5 aa];simp only[go_sem,nA]
   have bo:=hp.iG s cs;have hf:=Oa b s.r ⟨bo.r,hn⟩;have hw:=asb b hn s bo;have dE:∀q:Rat,cG (aV q)=true:=fun _=>rfl
   simp(disch:=omega)only[go_sem,d,Q,ff,cp,ki,aV,iX,f_,E];refine use hf ?_;simp only[go_sem,d,m1,bs,G,ab,nA];refine use hw ?_;simp only[go_sem,d,m1,bs,G,ab,nA,k5,iR,cj];have a6:=aI.ps i [aD,.an,aD,.an,aD,.an,aD,.an,ah 0,.an,ah 0,.an] (.cells (ki b s) 0);have c':=hG (k5 b) (yh b) (a.iG.take j);have c0:(a.iG.take j).length≤2:=by rw[dD];omega
   refine gW (bytes:=104) (new:=k5 b s) a6 (yh b s) ag (aqt b s) ⟨aa,ag⟩ fun v3 J K B a1 w X=>?_
   simp only[go_sem]at a1 w X;have Y:J.get p.next=.cells [Z,o] 0:=by rw[w _ aa (i.ne G)];simp only[m1,if_false,G]
   obtain⟨U,V,W⟩:=B.bg;simp only[go_sem,u,d,Q,Y,U,V,W];refine⟨eF.set ⟨fun y l=>?_,aa⟩ (aE _) _,aa,v3,K,rfl,?_,aa⟩
   ·rw[w y aa aa,aj aa,aj aa];exact A.1 y l
   ·rw[x4 hs];exact B.set Y _
  ·rintro a3 f d A ⟨E,dk,o,x,G,i,a7⟩;simp only[go_sem,u]at d;rw[yp]at i;obtain⟨l3,l4,S⟩:=i.bg;have hK:∀y,y<H1.next→f.get y=H1.get y:=fun y l=>by
    rw[A.1 y aa];simp only[go_sem,b8 (aa:y<p.next)]
    exact bi.1 y l
   have ae:aI f 2 v C g:=aI.qi P (fu.low hK aa);have dt:=aI.lt P;have z:f.get 7=.cells [ah 1,v,.an] 0:=(hK 7 aa).trans br;have I:=b8 (aa:7<f.next)
   have cd:j9 f g (C++[Z,o]) (bC (n4 b) (c.ps.take (m+1))):=by
    rw[x4 N];refine(al.step (fu.low hK aa) (.inr (.inl rfl))).app (j9.app (xs:=[Z]) (ys:=[b6 a.is]) (ci f 2 v C g (fu.low (fun y l=>?_) aa) ae (by simp only[go_sem];omega)) (aI.zz i ae aa ag (hG (k5 b) (yh b) a.iG)));rw[A.1 y l];simp only[go_sem,b8 l]
   simp only[go_sem,d,z,G,bA,ar,R,l3,l4,S,I];refine gW (bytes:=48) (new:=[Z,o]) ae rfl ag (by simp only[go_sem,R,S]) ⟨aa,ag⟩ fun v4 J K B a1 w X=>?_
   have bd:J.get 7=.cells [ah 1,v,.an] 0:=(w 7 aa (ae.ne z)).trans z;obtain⟨U,V,W⟩:=B.bg;simp only[go_sem,d,bd,U,V,W,u,hi];refine⟨eF.set ⟨fun y l=>?_,aa⟩ (aE _) _,E,aa,v4,_,K,rfl,B.set bd _,cd.step ((fu.app w X).set bd _) aa,?_,aa⟩
   ·rw[w y aa aa,hK y aa];exact hh.1 y l
   ·rw[aS,bb];show m*2+2=_;omega
 ·rintro b0 H1 u hh ⟨a4,h8,v,C,g,br,P,al,bb,ce⟩;simp only[go_sem]at u;rw[yp]at al;obtain⟨bA,ar,R⟩:=P.bg;have ab:H1.get 5=.cells (nA b c) 0:=by
   rw[hh.1 5 aa];simp only[go_sem,nA]
  have b':H1.get 6=.cells [ah 0,.an,.an] 0:=by
   rw[hh.1 6 aa];simp only[go_sem]
  simp only[go_sem,u,ab,nA];refine each c.ms.length [1,2,3,4,70,71] 7 (fun m F H=>rd 5 F=bO∧fu 0 H1 H∧∃o x,H.get 7=.cells [ah 1,v,o] 0∧aI H 4 o (bC (iR b) (c.ms.take m)) x∧(x=0∨H1.next≤x)) ?_ ?_ aa ag aa ?_ ?_ ?_ ?_
  iterate 2 simp only[go_sem]
  ·rintro m F H t v h ⟨D,L⟩;exact⟨by rw[qK aa];exact D,L⟩
  ·exact⟨by simp only[go_sem,a4],.refl,.an,0,br,.nil,.inl rfl⟩
  ·rintro m a3 f hm d A Q ⟨E,M,o,x,z,i,a7⟩;simp only[go_sem,u]at d;obtain⟨a,ad,N⟩:=iM hm;have hr:=ia (uF b) N;have dq:=M.n;have hw:=SF b a ⟨O.ms a ad,hn⟩;have hf:=Oa b a ⟨O.ms a ad,hn⟩;have I:=b8 (aa:7<f.next)
   obtain⟨l3,l4,S⟩:=i.bg;simp(disch:=omega)only[go_sem,d,Q,ff,hr,iX,f_,E];refine use hf ?_;simp only[go_sem,d,I,z];refine use hw ?_;simp only[go_sem,d,I,z,iR,cj,qQ];have a6:=aI.ps i [ah 0,.an,ah 0,.an] (.cells (iX b a) 0);have c':=hG (iR b) (yo b) (c.ms.take m);have c0:(c.ms.take m).length≤16:=by rw[dD];omega
   refine gW (bytes:=64) (new:=iR b a) a6 (yo b a) ag (aqE b a) ⟨aa,ag⟩ fun v3 J K B a1 w X=>?_
   simp only[go_sem]at a1 w X;have Y:J.get 7=.cells [ah 1,v,o] 0:=by rw[w _ aa (i.ne z)];simp only[I,if_false,z]
   obtain⟨U,V,W⟩:=B.bg;simp only[go_sem,u,d,Q,Y,U,V,W];refine⟨eF.set ⟨fun y l=>?_,aa⟩ (aE _) _,⟨fun y l T n2=>?_,by simp only[go_sem];omega⟩,v3,K,rfl,?_,aa⟩
   ·rw[w y aa aa,aj aa,aj aa];exact A.1 y l
   ·have co:7≠y:=by rintro rfl;exact T _ br
    rw[af.aK,aj co,w y aa aa,aj aa,aj aa];exact M.a y l T n2
   ·rw[x4 N];exact B.set Y _
  ·rintro a3 f d A ⟨E,M,o,x,z,i,a7⟩;simp only[go_sem,u]at d;rw[yp]at i;have a2:f.get 6=.cells [ah 0,.an,.an] 0:=by rw[A.1 6 aa];exact b'
   obtain⟨l3,l4,S⟩:=i.bg;simp only[go_sem,d,E,a2,z,bA,ar,R,l3,l4,S];have cf:=(aI.qi P M).set a2 (.cells [ah 1,v,o] 0);refine⟨_,.az (.cons (.agg (.cons (.same _) (.cons (oB (Hg b) ag cf (al _ _ (fun y dp k _ _=>af.e7 _ _) ((M.trans (fu.refl.set a2 _) (.inl rfl)).to)) (fun y h0 D=>af.e7 _ _) ?_) (.cons (oB (yo b) ag (i.set a2 _) (cD.refl _) (fun y h0 D=>af.e7 _ _) (hG (iR b) (yo b) _)) .nil)))) (.cons (.same _) .nil)),.az (.cons (.agg (BA b c)) (.cons (.bool _) .nil)),rfl⟩;exact bb
theorem SG(n:Nat)(d:n=1∨n=2)(k e:Nat)(c:oR)(a:c.aA n k e)(b:e≤16):aW 135 [.agg (nA n c)] (.agg (jJ n c)):=by
 have h:=asa n d k e c a b;refine jy (.cons (.agg (BB n c)) .nil) (cV Tryz.f135 (h:=?_));simp only[go_sem,nA];refine use h ?_;simp only[go_sem,jJ];exact jf rfl (.agg (BA n c))
theorem PK(b:a=1∨a=2):(0<(vL a).length∧(vL a).length≤6)∧∀e∈vL a,e∈n3 a:=by
 rcases b with rfl|rfl<;>decide
theorem aoc(l:List Int)(hl:l.length≤400)(d:hL l)(n a:Nat)(b:n=1∨n=2)(c:0<a∧a≤10):kT l 98 [ah (n:Int),ah 1,ah (a:Int)] fun v=>∃p,q3 n a p∧v=gu n p:=
 Qv (vL n) (PK b).1 1 l hl d n a b (PK b).2 (amk n b) c
theorem arO(l:List Int)(hl:l.length≤400)(b:hL l):kT l 259 [ah 1] fun v=>∃w:Nat,w≤4∧v=.az [bw (w:Rat),bw 0]:=by
 refine nD (.cons (.int _ _) .nil) fun i hi=>cV Tryz.f259 (h:=?_)
 simp only[go_sem];refine eX (lE l hl b 5 ag) ag hi ?_ ?_
 ·simp only[go_sem,lT,cX]
 rintro _ c ⟨k,d,rfl⟩ a;simp only[go_sem];refine use (z3 _ aa) ?_;simp only[go_sem,bw,aV,cX];refine⟨c,.az [bw (k:Rat),bw 0],a,rfl,.az (.cons (.same _) (.cons (.agg ?_) .nil)),.az (.cons (fX _) (.cons (fX _) .nil)),k,aa,rfl⟩;rw[QJ];exact .cons (.same _) (.cons .fK (.cons (.same _) (.cons .fK .nil)))
theorem R5(l:List Int)(hl:l.length≤400)(d:hL l)(n:Nat)(a:n=1∨n=2):kT l 260 [ah (n:Int),ah 1,ah 1,ah 2] fun v=>∃p,jo n p∧v=pP n p:=by
 refine nD (.cons (.int _ _) (.cons (.int _ _) (.cons (.int _ _) (.cons (.int _ _) .nil)))) fun i hi=>cV Tryz.f260 (h:=?_)
 simp only[go_sem];refine eX (aoc l hl d n 2 a ag) ag hi ?_ ?_
 ·simp only[go_sem,lT,cX]
 rintro _ e ⟨p,c,rfl⟩ b;simp only[go_sem];refine use (ame n p) ?_;simp only[go_sem,pP,iX,f_,cX];exact⟨e,_,b,rfl,.same _,.agg (vo n p),p,rN a ag c,rfl⟩
structure hM (l:List Int) (B:Nat) (H0 H:af):Prop where
 t:∃i,i≤l.length∧H.get 5=.cells (cB l i) 0
 k:∀y,y<B→y≠5→H.get y=H0.get y
 n:B≤H.next∧5<B
variable{N:List Int}
theorem hM.push{B:Nat}(h:hM N B c H)(o:cP):hM N B c (H.push o):=by
 have a:=h.n;obtain⟨i,hi,e⟩:=h.t;exact⟨⟨i,hi,by rw[af.bf,aj aa];exact e⟩,fun y d b=>by rw[af.bf,aj aa];exact h.k y d b,Nat.le_succ_of_le a.1,a.2⟩
theorem hM.set{B:Nat}(h:hM N B c H)(g:B≤a)(o:cP):hM N B c (H.set a o):=by
 have d:=h.n;obtain⟨i,hi,e⟩:=h.t;exact⟨⟨i,hi,by rw[af.aK,aj aa];exact e⟩,fun y f b=>by rw[af.aK,aj aa];exact h.k y f b,d⟩
theorem hM.tape{B:Nat}(h:hM N B c H)(hi:a≤N.length):hM N B c (H.set 5 (.cells (cB N a) 0)):=
 ⟨⟨a,hi,by rw[af.aK,ak rfl]⟩,fun y d b=>by rw[af.aK,aj aa];exact h.k y d b,h.n⟩
theorem hM.app{B:Nat}{b:af}(h:hM N B c H)(d:∀y,y<H.next→(a=0∨y≠a)→b.get y=H.get y)(m:H.next<b.next)(l:a=0∨B≤a):hM N B c b:=by
 have j:=h.n;obtain⟨i,hi,e⟩:=h.t;exact⟨⟨i,hi,by rw[d 5 aa aa];exact e⟩,fun y g f=>by rw[d y aa aa];exact h.k y g f,aa,j.2⟩
theorem Gp{B:Nat}(h:hM N B c H:=by repeat (first|assumption|refine hM.push ?_ _|refine hM.tape ?_ (by assumption)|refine hM.set ?_ (by first|exact nlrf _|omega|(simp only[go_sem];omega)) _)):hM N B c H:=h
theorem hM.yU{H0:af}(h:hM N H0.next H0 c)(e:H0.get 5=.cells b 0):fu a H0 c:=
 ⟨fun y f d _=>h.k y f (by rintro rfl;exact d _ e),h.n.1⟩
theorem zx:eF 0 c H:=⟨fun y a=>absurd a (ke y),bQ _⟩
def SO(l:List Int)(n k e:Nat)(pc:List V)(j:Nat)(H:af):Prop:=(∃i,i≤l.length∧H.get 5=.cells (cB l i) 0)∧H.get 6=.cells pc 0∧H.get 7=.cells [ah 0,.an,.an] 0∧9≤H.next∧
 ∃v b g a,H.get 8=.cells [ah 1,v,.an] 0∧aI H 2 v b g∧j9 H g b (bC (uB n) a)∧b.length=a.length*2∧a.length+j≤2∧(∀p∈a,p.aA n k)∧(g=0∨8<g)
theorem Ur(l:List Int)(hl:l.length≤400)(hz:hL l)(d:Nat)(hn:d=1∨d=2)(o:List ax)(Z es:List (List ax))(li:Z.length≤16)(le:es.length≤16):kT l 195 [fD ⟨d,o,Z,es⟩,ah 1] fun v=>∃c:oR,c.aA d Z.length es.length∧v=.agg (nA d c):=by
 have ce:=lE l hl hz;have d3:∀x:List (List ax),cT (fZ d x)=some (.val (ah (x.length:Int))):=fun _=>rfl
 refine nD (.cons (oA _) (.cons (.int _ _) .nil)) fun i0 ex=>cV Tryz.f195 (h:=?_)
 simp only[go_sem,fD,cX];refine eX (ce 3 ag) ag ex ?_ ?_
 ·simp only[go_sem,lT,cX]
 rintro _ i1 ⟨fg,fv,rfl⟩ a9;simp only[go_sem];obtain⟨pc,a2⟩:∃pc:List V,pc=[ah (d:Int),ah (d:Int),bG o,fZ d Z,fZ d es]:=⟨_,rfl⟩;refine Ny fg [0,2,4,6,7] 0 (fun j _ H=>SO l d Z.length es.length pc j H) ?_ aa ag (bQ _) (fun _ _ _ _ _ _ h=>h) ⟨⟨i1,a9,?_⟩,?_,?_,?_,.an,[],0,[],?_,.nil,.nil,rfl,by simp;omega,fun _ h=>by(cases h),.inl rfl⟩ ?_ ?_
 iterate 4 simp only[go_sem,cX,a2]
 ·simp only[go_sem,cX];omega
 ·simp only[go_sem,cX]
 ·rintro m d8 H1 hm B hh hi ⟨⟨i1,a9,ap⟩,ar,br,h9,v,xs,g,ps,eR,a7,cd,cp,e2,ch,et⟩;simp only[go_sem]at B;have a3:=b8 (aa:5<H1.next)
  have fn:=b8 (aa:6<H1.next)
  have f6:=b8 (aa:8<H1.next)
  simp only[go_sem,B,hi,ar,fn,a2,d3];refine each Z.length [0,2,4,6,7,8,9,24] 0 (fun m _ H=>hM l H1.next H1 H∧H1.next<H.next∧∃E g1 u,H.get H1.next=.cells [E,.an] 0∧aI H 1 E (cv u) g1∧u.Pairwise (·< ·)∧(∀x∈u,x<m)∧u.length≤m∧(g1=0∨H1.next<g1)) ?_ ?_ aa ag (bQ _) (fun _ _ _ _ _ _ h=>h) ?_ ?_ ?_
  iterate 2 simp only[go_sem]
  ·exact⟨hM.push ⟨⟨i1,a9,ap⟩,fun _ _ _=>rfl,aE _,aa⟩ _,mm _,.an,0,[],by simp only[go_sem],.nil,.nil,fun _ h=>(p6 h).elim,aE 0,.inl rfl⟩
  ·rintro q d9 T hq G _ a1 ⟨i,dT,E,g1,u,a4,a8,bo,bj,e0,du⟩;simp only[go_sem,B]at G;obtain⟨i2,eQ,W⟩:=i.t;simp only[go_sem,G,a1];refine eX (ce 3 ag) ag eQ W ?_;rintro _ I ⟨w,hw,rfl⟩ N;by_cases f0:w=2
   ·have e:((w:Int)=2)=True:=eq_true aa;have be:(T.set 5 (.cells (cB l I) 0)).get H1.next=.cells [E,.an] 0:=by simp only[go_sem,a3,a4]
    have cb:=a8.set W (.cells (cB l I) 0);have d2:=i.tape N;have nn:(T.set 5 (.cells (cB l I) 0)).next=T.next:=rfl
    obtain⟨f,h3⟩:∃f,f=T.set 5 (.cells (cB l I) 0):=⟨_,rfl⟩;rw[←h3]at be cb d2 nn⊢;have il:=j0 u;simp only[go_sem,G,a1,e,be];refine gW (bytes:=8) (new:=[ah (q:Int)]) cb rfl ag rfl ⟨aa,ag⟩ fun S U O K bc C Q=>?_
    have R:U.get H1.next=.cells [E,.an] 0:=(C _ aa (cb.ne be)).trans be
    obtain⟨p3,ac,ad⟩:=K.bg;simp only[go_sem,B,G,hi,a1,R,p3,ac,ad];refine⟨zx,(d2.app C Q aa).set (aE _) _,aa,S,O,u++[q],rfl,?_,?_,?_,?_,aa⟩
    ·have:=K.set R (.cells [S,.an] 0);rwa[show cv u++[V.int .i64 (q:Int)]=cv (u++[q]) by simp[cv]]at this
    ·rw[wK];exact⟨bo,List.pairwise_singleton _ _,fun a ha b hb=>by rw[dj.1 hb];exact bj a ha⟩
    ·intro x hx;rcases gI.1 hx with h|h
     ·have:=bj x h;omega
     ·rw[dj.1 h];omega
    ·rw[aS];show u.length+1≤_;omega
   ·have e:((w:Int)=2)=False:=eq_false aa;simp only[go_sem,B,G,hi,a1,e,a3,a4];exact⟨zx,i.tape N,dT,E,g1,u,rfl,a8.set W _,bo,fun x hx=>by have:=bj x hx;omega,aa,du⟩
  ·rintro d9 T G _ ⟨i,dT,E,g1,u,a4,a8,bo,e1,e0,du⟩;simp only[go_sem,B]at G;obtain⟨i2,a1,W⟩:=i.t;simp only[go_sem,G];refine eX (ce 3 ag) ag a1 W ?_;rintro _ I ⟨j1,fw,rfl⟩ N;simp only[go_sem];refine Ny j1 [0,2,4,6,7,8,9] 0 (fun j _ H=>hM l H1.next H1 H∧fu 0 T H∧∃z J D,H.get H1.next=.cells [E,z] 0∧aI H 12 z (bC (ki d) D) J∧D.length+j≤2∧(∀s∈D,s.aA d)∧(J=0∨T.next≤J)) ?_ aa ag (bQ _) (fun _ _ _ _ _ _ h=>h) ?_ ?_ ?_
   ·simp only[go_sem]
   ·exact⟨i.tape N,fu.refl.set W _,.an,0,[],by simp only[go_sem,a3,a4],.nil,by simp;omega,fun _ h=>(p6 h).elim,.inl rfl⟩
   ·rintro q b' f hq A _ N ⟨i,F,z,J,D,aw,M,a',Y,ca⟩;simp only[go_sem,B,G]at A;obtain⟨I,X,L⟩:=i.t;have dt:=F.n;have b2:=b8 (aa:5<f.next)
    have d5:=b8 (aa:6<f.next)
    have d4:=b8 (aa:f.next<f.next+1)
    have dd:=b8 (aa:H1.next<f.next)
    have df:=b8 (aa:H1.next<f.next+1)
    have db:=b8 (aa:5<f.next+1)
    have d6:=b8 (aa:6<f.next+1)
    have vt:f.get 6=.cells pc 0:=(i.k 6 aa ag).trans ar;simp only[go_sem,A,N];refine eX (arO l hl hz) ag X L ?_;rintro _ i4 ⟨w,hw,rfl⟩ dC;simp only[go_sem,A,bw,aV,b2,d5,d4,dd,df,db,d6,a3,aw,vt,a2];refine eX (R5 l hl hz d hn) ag dC ?_ ?_
    ·simp only[go_sem,b2,db]
    rintro _ i5 ⟨r,hr,rfl⟩ ft;have fb:m7.aA d ⟨w,r⟩:=⟨hw,hr⟩;have fs:=hG (ki d) (x6 d) D;simp only[go_sem,A,pP,iX,f_,b2,d5,d4,dd,df,db,d6,a3,aw];refine gW (bytes:=192) (new:=ki d ⟨w,r⟩) (aI.qi M ⟨fun y hy P k2=>?_,?_⟩) rfl ag rfl ⟨aa,ag⟩ fun S U O K bc C Q=>?_
    ·have h5:(5=y)=False:=eq_false (by rintro rfl;exact P _ L);simp only[go_sem,b8 hy,b8 (aa:y<f.next+1),h5]
    ·simp only[go_sem];omega
    simp only[go_sem]at bc Q;have R:U.get H1.next=.cells [E,z] 0:=by
     rw[C _ (by simp only[go_sem];omega) (M.ne aw)];simp only[go_sem,dd,df,a3,aw]
    obtain⟨p3,ac,ad⟩:=K.bg;have c2:=(Gp:hM l H1.next H1 _).app C (by simp only[go_sem];omega) aa
    simp only[go_sem,B,G,A,hi,N,R,p3,ac,ad];refine⟨zx,c2.set (aE _) _,⟨fun y hy P k2=>?_,by simp only[go_sem];omega⟩,S,O,D++[⟨w,r⟩],rfl,?_,?_,?_,aa⟩
    ·have h5:(5=y)=False:=eq_false (by rintro rfl;exact P _ W);have b7:(H1.next=y)=False:=eq_false (by rintro rfl;exact P _ a4)
     simp only[go_sem,b7,if_false];rw[C y (by simp only[go_sem];omega) aa];simp only[go_sem,b8 (aa:y<f.next),b8 (aa:y<f.next+1),h5]
     exact F.a y hy P k2
    ·rw[qL];have:=K.set R (.cells [E,S] 0);simpa [bC]using this
    ·rw[aS];show D.length+1+_≤_;omega
    ·intro s hs;rcases gI.1 hs with h|h
     ·exact Y s h
     ·rw[dj.1 h];exact fb
   ·rintro b' f A _ ⟨i,F,z,J,D,aw,M,a',Y,ca⟩;simp only[go_sem,B,G]at A;obtain⟨I,X,L⟩:=i.t;have dt:=F.n;have ed:fu g H1 f:=hM.yU i ap;have bi:aI f 2 v xs g:=aI.qi a7 (hM.yU i ap);have bj:=aI.lt a7;have sM:f.get 8=.cells [ah 1,v,.an] 0:=(i.k 8 aa ag).trans eR;have d7:=b8 (aa:8<f.next)
    obtain⟨bA,c1,b0⟩:=(aI.qi a8 F).bg;obtain⟨l3,l4,b1⟩:=M.bg;have e':qf.aA d Z.length ⟨u,D⟩:=⟨bo,e1,by show u.length≤1000;omega,Y,by show D.length≤2;omega⟩;have eh:j9 f g (xs++[E,z]) (bC (uB d) (ps++[⟨u,D⟩])):=by
     rw[qL];refine(cd.step ed (.inr (.inl rfl))).app ?_;show j9 f g [E,z] ([b6 u,b4 (ki d) D]++[]);rw[fG];exact j9.app (xs:=[E]) (ys:=[b6 u]) (aI.zz (aI.qi a8 F) bi aa ag (Ge u)) (aI.zz M bi aa ag (hG (ki d) (x6 d) D))
    simp only[go_sem,A,sM,aw,bA,c1,b0,l3,l4,b1,d7];refine gW (bytes:=48) (new:=[E,z]) bi rfl ag (by simp only[go_sem,b0,b1]) ⟨aa,ag⟩ fun v4 U O K bc C Q=>?_
    have dl:U.get 8=.cells [ah 1,v,.an] 0:=(C 8 aa (bi.ne sM)).trans sM;obtain⟨p3,ac,ad⟩:=K.bg;simp only[go_sem,B,G,A,hi,dl,p3,ac,ad];have eq:O=0∨8<O:=aa;refine⟨zx,⟨I,X,?_⟩,?_,?_,by simp only[go_sem];omega,v4,_,O,ps++[⟨u,D⟩],?_,K.set dl _,eh.step ((fu.app C Q).set dl _) aa,?_,?_,?_,eq⟩
    ·simp only[go_sem];rw[C 5 aa aa];exact L
    ·simp only[go_sem];rw[C 6 aa aa,i.k 6 aa ag,ar,a2]
    ·simp only[go_sem];rw[C 7 aa aa,i.k 7 aa ag];exact br
    ·simp only[go_sem]
    ·rw[aS,aS,cp,cF];rfl
    ·rw[aS];show ps.length+1+_≤_;omega
    ·intro p hp;rcases gI.1 hp with h|h
     ·exact ch p h
     ·rw[dj.1 h];exact e'
 ·rintro d8 H1 B _ ⟨⟨i1,a9,ap⟩,ar,br,h9,v,xs,g,ps,eR,a7,cd,cp,e2,ch,et⟩;simp only[go_sem]at B;obtain⟨bA,c1,b0⟩:=a7.bg;simp only[go_sem,B,ar,a2,d3];refine each es.length [0,2,4,6,7,71] 0 (fun m _ H=>hM l 8 H1 H∧fu 0 H1 H∧∃z J ms,H.get 8=.cells [ah 1,v,z] 0∧aI H 4 z (bC (iX d) ms) J∧ms.length=m∧(∀p∈ms,jo d p)∧(J=0∨H1.next≤J)) ?_ ?_ aa ag (bQ _) (fun _ _ _ _ _ _ h=>h) ?_ ?_ ?_
  iterate 2 simp only[go_sem]
  ·exact⟨⟨⟨i1,a9,ap⟩,fun _ _ _=>rfl,aa,ag⟩,.refl,.an,0,[],eR,.nil,rfl,fun _ h=>(p6 h).elim,.inl rfl⟩
  ·rintro q b' f hq A _ N ⟨i,F,z,J,ms,sM,M,a',Y,ca⟩;simp only[go_sem,B]at A;obtain⟨I,X,L⟩:=i.t;have dt:=F.n;have b2:=b8 (aa:5<f.next)
   have d7:=b8 (aa:8<f.next)
   have vt:f.get 6=.cells pc 0:=(i.k 6 aa ag).trans ar;simp only[go_sem,A,N,vt,sM,a2];refine eX (R5 l hl hz d hn) ag X L ?_;rintro _ i4 ⟨r,hr,rfl⟩ dC;have fs:=hG (iX d) (uF d) ms;simp only[go_sem,A,pP,sM];have ds:(f.set 5 (.cells (cB l i4) 0)).get 8=.cells [ah 1,v,z] 0:=by simp only[go_sem,sM]
   have dv:=M.set L (.cells (cB l i4) 0);simp only[go_sem,iX,f_];refine gW (bytes:=64) (new:=iX d r) dv rfl ag rfl ⟨aa,ag⟩ fun S U O K bc C Q=>?_
   have R:U.get 8=.cells [ah 1,v,z] 0:=(C _ (by simp only[go_sem];omega) (dv.ne ds)).trans ds;obtain⟨p3,ac,ad⟩:=K.bg;have c2:=(Gp:hM l 8 H1 _).app C (by simp only[go_sem]at Q⊢;omega) aa;simp only[go_sem]at bc Q;simp only[go_sem,B,A,N,R,p3,ac,ad];refine⟨zx,c2.set (aE _) _,⟨fun y hy P k2=>?_,by simp only[go_sem];omega⟩,S,O,ms++[r],rfl,?_,?_,?_,aa⟩
   ·have h5:(5=y)=False:=eq_false (by rintro rfl;exact P _ ap);have h8:(8=y)=False:=eq_false (by rintro rfl;exact P _ eR);simp only[go_sem,h8,if_false];rw[C y (by simp only[go_sem];omega) aa];simp only[go_sem,h5];exact F.a y hy P k2
   ·rw[qL];have:=K.set R (.cells [ah 1,v,S] 0);simpa [bC]using this
   ·rw[aS,a'];rfl
   ·intro p hp;rcases gI.1 hp with h|h
    ·exact Y p h
    ·rw[dj.1 h];exact hr
  ·rintro b' f A _ ⟨i,F,z,J,ms,sM,M,a',Y,ca⟩;simp only[go_sem,B]at A;obtain⟨I,X,L⟩:=i.t;obtain⟨l3,l4,b1⟩:=M.bg;have bd:f.get 7=.cells [ah 0,.an,.an] 0:=(i.k 7 aa ag).trans br;simp only[go_sem,A,sM,bd,bA,c1,b0,l3,l4,b1];have ev:=(aI.qi a7 F).set bd (.cells [ah 1,v,z] 0);have no:∀y cs c0,c0≠0→(f.set 7 (.cells [ah 1,v,z] 0)).get y=.cells cs c0→(af.one 5 (f.set 7 (.cells [ah 1,v,z] 0)).next (cB l I)).get y=.none:=fun y cs c0 h0 h1=>by
    rw[af.kE,aj];rintro rfl;rw[af.aK,aj ag,L]at h1;cases h1;exact h0 rfl
   refine⟨I,_,X,L,.agg (.cons (.same _) (.cons (oB (HG d) ag ev (cd _ _ no (F.trans (fu.refl.set bd _) (.inl rfl)).to) (fun y h0 h1=>no y _ _ h0 h1) cp) (.cons (oB (uF d) ag (M.set bd _) (cD.refl _) (fun y h0 h1=>no y _ _ h0 h1) (hG (iX d) (uF d) _)) .nil))),.agg (BB d ⟨ps,ms⟩),⟨ps,ms⟩,⟨ch,by show ps.length≤2;omega,Y,a'⟩,rfl⟩
theorem Hr(n:Nat):∀(j:Nat) (l:List cc),l5 n j l=h_ n j (l.map eE)
 |_,[]=>rfl
 |j,s::l=>by
  rw[List.map_cons,l5,h_,Hr n (j+1) l];obtain⟨lo,hi,a,b⟩:=s;cases a<;>cases b<;>simp[ux,vW,sV,ua,eE,oN,l7]
theorem Tz(s:cc):ot (eE s)=vZ s:=by
 obtain⟨lo,hi,a,b⟩:=s;cases a<;>cases b<;>simp[ot,eE,vZ,oN]
theorem Jd(l:List cc):(l.map eE).all ot=l.all vZ:=by
 rw[List.all_map];exact congrArg l.all (funext Tz)
theorem al5(l:List Int)(hl:l.length≤400)(D:hL l)(p:fz)(o:p.aA)(s:List cc)(C:s.length=p.n)(I:∀x∈s,iK 90 x):kT l 133 [fD p,c6 s] fun v=>∃f:r9,r_ p (s.map eE) f∧v=.agg (dy p.n (.leaf f)):=by
 have w:=o.n;have W:=o.li;have V:=o.le;have B:=lE l hl D;have L:∀x:List (List ax),cT (fZ p.n x)=some (.val (ah (x.length:Int))):=fun _=>rfl
 have r:=Q8 p o s C I;rw[Hr]at r;have J:=x3 p.n 0 (s.map eE);rw[g5,C]at J;have K:(p.is++h_ p.n 0 (s.map eE)).length≤16:=by rw[aS];omega
 have m:=Ur l hl D p.n w p.obj (p.is++h_ p.n 0 (s.map eE)) p.es K aa;obtain⟨y,z⟩:∃y,y=p.is++h_ p.n 0 (s.map eE):=⟨_,rfl⟩;have A:∀b c,c.aA p.n y.length p.es.length→r_ p (s.map eE) (.cert b c):=fun b c h=>by rw[z]at h;exact h
 rw[←z]at r m;have G:=J3 s aa;refine nD (.cons (oA _) (.cons (lq _) .nil)) fun R H=>cV Tryz.f133 (h:=?_)
 simp only[go_sem,fD,cX];simp only[fD]at r m;refine use r ?_;simp only[go_sem,cX];refine eX (B 5 ag) ag H ?_ ?_
 ·simp only[go_sem,lT,cX]
 rintro _ E ⟨k,P,rfl⟩ d;by_cases S:k=0
 ·have e:((k:Int)=0)=True:=eq_true aa;simp only[go_sem,e,cX];exact⟨E,_,d,rfl,.same _,.agg (oz p.n (.leaf .vT)),.vT,trivial,rfl⟩
 have t:((k:Int)=0)=False:=eq_false aa;by_cases T:k=1
 ·have j:((k:Int)=1)=True:=eq_true aa;simp only[go_sem,t,j,cX];refine eX m ag d ?_ ?_
  ·simp only[go_sem]
  rintro _ i ⟨c,a,rfl⟩ g;simp only[go_sem];refine use (SG p.n w _ _ c a aa) ?_;simp only[go_sem,jJ,cX];exact⟨i,_,g,rfl,.same _,.agg (oz p.n (.leaf (.cert false c))),.cert false c,A _ c a,rfl⟩
 have j:((k:Int)=1)=False:=eq_false aa;by_cases U:k=2
 ·have u:((k:Int)=2)=True:=eq_true aa;simp only[go_sem,t,j,u,cX];refine eX m ag d ?_ ?_
  ·simp only[go_sem]
  rintro _ i ⟨c,a,rfl⟩ g;simp only[go_sem];refine use (SG p.n w _ _ c a aa) ?_;simp only[go_sem,jJ,cX];exact⟨i,_,g,rfl,.same _,.agg (oz p.n (.leaf (.cert true c))),.cert true c,A _ c a,rfl⟩
 have u:((k:Int)=2)=False:=eq_false aa;simp only[go_sem,t,j,u,cX];refine use G ?_;unfold wY;cases F:s.all vZ
 ·simp only[go_sem,ie,if_false,cX];exact⟨E,_,d,rfl,.same _,.agg (oz p.n (.leaf .vT)),.vT,trivial,rfl⟩
 ·have M:aC .i64 (1+(p.is.length:Int))=1+(p.is.length:Int):=aH _ aa;have N:aC .i64 (1+(p.is.length:Int)+(p.es.length:Int))=((1+p.is.length+p.es.length:Nat):Int):=by rw[aH _ aa];omega
  simp only[go_sem,if_true,L,M,N,cX];refine eX (B (1+p.is.length+p.es.length) ⟨aa,aa⟩) ag d ?_ ?_
  ·simp only[go_sem]
  rintro _ i ⟨q,Q,rfl⟩ g;have O:aC .i64 ((q:Int)-1)=(q:Int)-1:=aH _ aa;simp only[go_sem,O,cX];exact⟨i,_,g,rfl,.same _,.agg (oz p.n (.leaf (.AU ((q:Int)-1)))),.AU ((q:Int)-1),⟨aa,aa,by rw[Jd];exact F⟩,rfl⟩
end
section
open Go.au Go.aF
set_option maxRecDepth 100000
attribute [local irreducible] rd kc ex bE bF re rg mv bS pick alloc box bi bs be bp st fa cz cN dI c8 dN eB eA ms dx ek ej dY mx mn dX ap ee cJ dZ d_ cm ec ext er neg Go.au.not en ei ep eo ey eu ef ew dR dP u8
structure iJ (H:af) (k n:Nat) (v:V) (xs:List V) (b g:Nat):Prop where
 row:H.get b=.cells xs g
 tn:(g=0∧v=.slice b 0 n (.known n))∨(g≠0∧v=.slice b 0 n (.grown k)∧(∃f,H.get g=.bB b f∧f≤b)∧g<H.next)
 len:xs.length=n*k
 lt:b<H.next
section
variable {H:af}{k n:Nat}{v:V}{xs:List V}{b g:Nat}
theorem iJ.ama(h:iJ H k n v xs b g):cT v=some (.val (ah (n:Int))):=by
 rcases h.tn with⟨_,rfl⟩|⟨_,rfl,_⟩<;>rfl
theorem iJ.bg(h:iJ H k n v xs b g):bg v=true∧cellsOf v=[v]∧V.one v=true:=by
 rcases h.tn with⟨_,rfl⟩|⟨_,rfl,_⟩<;>exact⟨rfl,rfl,rfl⟩
theorem iJ.cz(h:iJ H k n v xs b g){i:Int}{ik:IntKind}(hi:0≤i∧i<n):dJ none k [v,.int ik i]=some (.val (.ptr b (i.toNat*k))):=by
 rcases h.tn with⟨_,rfl⟩|⟨_,rfl,_⟩<;>(rw[b3 hi,dK])
theorem iJ.fR(h:iJ H k n v xs b g):H.fR b g=true:=by
 rcases h.tn with⟨a,_⟩|⟨_,_,⟨f,c,d⟩,_⟩
 ·exact gq.2 (.inl a)
 ·exact xN c d
theorem iJ.bp(h:iJ H k n v xs b g)(s o:Nat):iq false s [.ptr b o] H=cK xs o:=by
 rw[Gs,h.row];exact Gr h.fR
theorem iJ.cS(h:iJ H k n v xs b g):H.cS b 0 (n*k)=some xs:=by
 unfold af.cS;rw[y9 h.row h.fR];show cq (eC xs 0) (n*k)=_;rw[c_,iC h.len]
theorem iJ.keep{H':af}(h:iJ H k n v xs b g)(c:H'.get b=H.get b)(d:g=0∨H'.get g=H.get g)(m:H.next≤H'.next):iJ H' k n v xs b g:=by
 refine⟨c.trans h.row,?_,h.len,by have:=h.lt;omega⟩;rcases h.tn with a|⟨a,e,⟨f,i,j⟩,l⟩
 ·exact .inl a
 ·exact .inr ⟨a,e,⟨f,(d.resolve_left a).trans i,j⟩,aa⟩
theorem iJ.t_(h:iJ H k n v xs b g):g=0∨g<H.next:=by
 rcases h.tn with⟨a,_⟩|⟨_,_,_,c⟩
 ·exact .inl a
 ·exact .inr c
theorem amF{xs c b:List V}(h:cC c xs a=some b):b.length=xs.length:=by
 rw[lC]at h;split at h
 ·cases h;simp only[aS,dD,gZ];omega
 ·cases h
theorem iJ.st(h:iJ H k n v xs b g){m:Nat}{l c:List V}{w:V}(p:cC l xs a=some c)(r:Go.au.bg w=true)(q:cellsOf w=l)(s:bn (cr l) m=true)(t:cG l=true):
 ∃i,oL m [.ptr b a,w] H=some (V.undef,i)∧iJ i k n v c b g∧(∀y,y≠b→(g=0∨y≠g)→i.get y=H.get y)∧i.next=H.next:=by
 have hl:=amF p;rcases h.tn with⟨d,e⟩|⟨d,e,⟨f,o,x⟩,z⟩
 ·subst d;refine⟨H.set b (.cells c 0),?_,⟨by rw[af.aK,ak rfl],.inl ⟨rfl,e⟩,hl.trans h.len,h.lt⟩,fun y A _=>by rw[af.aK,aj (Ne.symm A)],rfl⟩;rw[aqv,h.row,RX,r,q,s,t,p];rfl
 ·have j:cI H b g xs:=⟨h.row,⟨f,o,x⟩,d⟩;have D:=j.JX;refine⟨af.wr H b g c,Aj j p r q s t,?_,fun y e o=>nU e (o.resolve_left d),rfl⟩;obtain⟨u,B,C⟩:=(j.written c).bB;exact⟨(j.written c).row,.inr ⟨d,e,⟨u,B,C⟩,z⟩,hl.trans h.len,h.lt⟩
theorem NF{F:Fr}{bytes m:Nat}{new:List V}(h:iJ H k n v xs b g)(Q:0<m)(R:0<n)(hl:new.length=m*k)(G:0<k)(J:cG new=true)(D:xs.length+new.length≤1000000000∧bytes≤1024)
 (t:∀x c j d,iJ c k (n+m) x (xs++new) j d→(g=0∧H.next<d∨g≠0∧d=g)→H.next≤j→j≠d→(∀y,y<H.next→(g=0∨y≠g)→c.get y=H.get y)→H.next<c.next→e (put F i x) c):
 gj i e F (fH k bytes [v,.slice H.next 0 m (.known m)] (H.push (.cells new 0))):=by
 have P:=h.lt;have K:=h.len;have I:n+m≤(n+m)*k:=Nat.le_mul_of_pos_right _ G;rw[cF]at I;have p:iJ (H.push (.cells new 0)) k n v xs b g:=h.keep (by rw[af.bf,aj aa]) (by
  rcases h.t_ with h|h
  ·exact .inl h
  ·exact .inr (by rw[af.bf,aj aa])) (sr _)
 have E:=h.t_;have B:dS (H.push (.cells new 0)) k m (.slice H.next 0 m (.known m))=some new:=by
  show(H.push (.cells new 0)).cS H.next 0 (m*k)=some new
  rw[fJ (cs:=new) (by rw[af.bf,ak rfl]),c_,iC hl]
 have s:je (n+m) bytes=true:=qq ⟨aa,cy (j_ (aa:n+m≤1000000000) D.2) ag⟩;have A:fH k bytes [v,.slice H.next 0 m (.known m)] (H.push (.cells new 0))=jX k bytes v m new (H.push (.cells new 0)):=by
  show ao (some m) (fun n=>ao (dS _ k n _) fun new=>jX k bytes v n new _)=_;show ao (dS _ k m _) _=_;rw[B];rfl
 have u:=p.cS;have w:=rH (aa:m≠0);have r:(xs++new).length=(n+m)*k:=by rw[aS,K,hl,cF]
 rw[A];rcases p.tn with⟨a,o⟩|⟨a,o,⟨f,C,M⟩,N⟩
 ·subst a o;have l:jX k bytes (.slice b 0 n (.known n)) m new (H.push (.cells new 0))=lz (H.push (.cells new 0)) k (n+m) (xs++new):=by
   show Bool.casesOn (motive:=fun _=>Option (V×af)) (fh m) (aQ (je (n+m) bytes) (Bool.casesOn (motive:=fun _=>Option (V×af)) (bM (n+m) n) (ao ((H.push (.cells new 0)).cS b 0 (n*k)) fun q=>lz (H.push (.cells new 0)) k (n+m) (cW q new)) _)) _=_;rw[w,s,u,show bM (n+m) n=false from mY.2 fun z=>by have:=mh z;omega];show lz _ k (n+m) (cW xs new)=_;rw[iP]
  rw[l];refine t _ _ (H.next+1) (H.next+2) ⟨?_,.inr ⟨aa,rfl,⟨H.next+1,?_,aE _⟩,?_⟩,r,?_⟩ (.inl ⟨rfl,aa⟩) aa aa (fun y L _=>?_) ?_
  ·rw[af.bf,aj (by simp only[go_sem];omega),af.bf,ak (by simp only[go_sem])];rfl
  ·rw[af.bf,ak (by simp only[go_sem])];rfl
  ·simp only[go_sem];omega
  ·simp only[go_sem];omega
  ·rw[af.bf,aj (by simp only[go_sem];omega),af.bf,aj (by simp only[go_sem];omega),af.bf,aj aa]
  ·simp only[go_sem];omega
 ·subst o;have l:jX k bytes (.slice b 0 n (.grown k)) m new (H.push (.cells new 0))=some (.slice (H.next+1) 0 (n+m) (.grown k),((H.push (.cells new 0)).push (.cells (xs++new) g)).set g (.bB (H.next+1) (H.next+1))):=by
   show Bool.casesOn (motive:=fun _=>Option (V×af)) (fh m) (aQ (je (n+m) bytes) (aQ (and (bn k k) (cG new)) (ao ((H.push (.cells new 0)).cS b 0 (n*k)) fun q=>o4 (H.push (.cells new 0)) k b (n+m) (cW q new)))) _=_;rw[w,s,J,show bn k k=true from sn k,u];show o4 (H.push (.cells new 0)) k b (n+m) (cW xs new)=_;unfold o4;rw[p.row];show cP.casesOn (motive:=fun _=>Option (V×af)) ((H.push (.cells new 0)).get g) _ _ _ _=_;rw[C];show aQ (and (bn b b) (!(fh g))) _=_;rw[show bn b b=true from sn b,rH a,iP];rfl
  rw[l];have O:=E.resolve_left a;refine t _ _ (H.next+1) g ⟨?_,.inr ⟨a,rfl,⟨H.next+1,?_,aE _⟩,?_⟩,r,?_⟩ (.inr ⟨a,rfl⟩) aa aa (fun y L S=>?_) ?_
  ·rw[af.aK,aj aa,af.bf,ak (by simp only[go_sem])]
  ·rw[af.aK,ak rfl]
  ·simp only[go_sem];omega
  ·simp only[go_sem];omega
  ·rw[af.aK,aj aa,af.bf,aj (by simp only[go_sem];omega),af.bf,aj aa]
  ·simp only[go_sem];omega
end
def DB(l:List Int)(f:Nat)(a:V)(e:List V)(R:V→Prop):Prop:=∀(H:af) (b i:Nat),5≤b→i≤l.length→H.get b=.cells (cB l i) 0→
 c7 f (a:: .ptr b 0::e) H fun v d=>R v∧∃c,c≤l.length∧d=H.set b (.cells (cB l c) 0)
variable{N:List Int}
theorem aqP{a:V}{e:List V}{R:V→Prop}(m:bz a)(q:bY e)
 (l:∀i,i≤N.length→c7 h (a:: .ptr 5 0::e) (af.one 5 6 (cB N i)) fun k d=>∃c v,c≤N.length∧d.get 5=.cells (cB N c) 0∧bR d (af.one 5 d.next (cB N c)) k v∧bz v∧R v):DB N h a e R:=by
 intro H b i r hi s;refine(Kx (R:=fun v j=>R v∧∃c,c≤N.length∧j=cB N c) s (BE N i) r ⟨0,aB⟩ (args2:=a:: .ptr 5 0::e) (.cons (gV.free m) (.cons ?_ (jW.free q))) ?_).mono ?_
 ·have:=gV.ptr (σ:=oq 5 b) (k:=5+1) (b:=5) 0 ag;rwa[show oq 5 b 5=b from ak rfl]at this
 ·refine(l i hi).mono ?_;rintro k d ⟨c,v,f,g,n,o,p⟩;exact⟨v,cB N c,g,BE N c,n,o,p,c,f,rfl⟩
 ·rintro v d ⟨j,⟨f,c,g,rfl⟩,rfl⟩;exact⟨f,c,g,rfl⟩
theorem aru{a:V}{f:List V}{R:V→Prop}(j:DB N h a f R)(n:5≤u)(hi:L≤N.length)(o:c.get u=.cells (cB N L) 0)
 (p:∀v d,R v→d≤N.length→e (put m i v) (c.set u (.cells (cB N d) 0))):oQ eP 5 i e m c (some (.fn h,a:: .ptr u 0::f)):=
 (j c u L n hi o).mono fun v q ⟨k,d,l,g⟩=>by rw[g];exact p v d k l
theorem Ch(n:Nat)(x:tK):bn (cr (dy n x)) 9=true∧cG (dy n x)=true∧∀a b c d e f g h i:V,cC (dy n x) [a,b,c,d,e,f,g,h,i] 0=some (dy n x):=by
 rcases x with⟨_,_,_,_⟩|(_|_|⟨b,_⟩)
 ·exact⟨rfl,rfl,fun _ _ _ _ _ _ _ _ _=>rfl⟩
 ·exact⟨rfl,rfl,fun _ _ _ _ _ _ _ _ _=>rfl⟩
 ·exact⟨rfl,rfl,fun _ _ _ _ _ _ _ _ _=>rfl⟩
 ·cases b<;>exact⟨rfl,rfl,fun _ _ _ _ _ _ _ _ _=>rfl⟩
theorem anh(n:Nat)(x:tK):cq (dy n x) 9=some (dy n x):=iC (sY n x)
def xH:List V:=[ah 0,aD,.an,aD,.an]
theorem alP(l:List Int)(hl:l.length≤400)(i:hL l)(p:fz)(e:p.aA)(s:List cc)(h:s.length=p.n)(g:∀x∈s,iK 90 x):DB l 78 (.agg xH) [fD p,c6 s] fun v=>∃f:r9,r_ p (s.map eE) f∧v=.agg (dy p.n (.leaf f)):=by
 have a:=al5 l hl i p e s h g;refine aqP (.agg (.cons (.int _ _) (.cons (.bool _) (.cons .an (.cons (.bool _) (.cons .an .nil)))))) (.cons (oA _) (.cons (lq _) .nil)) fun q c=>cV Tryz.f78 (h:=?_)
 simp only[fD]at a;simp only[go_sem,xH,fD,cX];refine eX a ag c ?_ ?_
 ·simp only[go_sem,lT,cX]
 rintro _ j ⟨f,b,rfl⟩ d;obtain⟨k,m,o⟩:=Ch p.n (.leaf f);simp only[go_sem,cX,k,m,o,anh];exact⟨j,_,d,rfl,.same _,.agg (oz _ _),f,b,rfl⟩
end
section
open Go.au Go.aF
set_option maxRecDepth 100000
attribute [local irreducible] rd kc ex bE bF re rg mv bS pick alloc box bi bs be bp st fa cz cN dI c8 dN eB eA ms dx ek ej dY mx mn dX ap ee cJ dZ d_ cm ec ext er neg Go.au.not en ei ep eo ey eu ef ew dR dP u8
def nY(i:Nat):Nat:=if i=0 then 9 else if i≤2 then 25 else 57
def yI(k m:Nat)(l:List cc):Prop:=l.length=m∧∀x∈l,iK k x∧(x.hl=true→x.hh=true→x.lo<x.hi)
structure r6 (p:fz) (b:List cc) (n N:Nat) (t:aO):Prop where
 CK:t.s≤3
 nn:n≤2*t.s+1
 Br:N=2*min n t.s+1
 b0:t.bs 0=b
 w4:∀i,i<N→yI (nY i) p.n (t.bs i)
 sp:∀i,i<min n t.s→t.v i<p.n∧a_ 81 (t.a i)∧qk (t.a i) ((t.bs i).getD (t.v i) gR)∧t.bs (2*i+1)=pB (t.bs i) (t.v i) (t.a i)∧t.bs (2*i+2)=pL (t.bs i) (t.v i) (t.a i)
 fI:∀i,t.s≤i→i<n→r_ p (t.c9 i) (t.fI i)
theorem r6.leaf{p:fz}{b:List cc}{t:aO}(c:r6 p b a h t)(j:t.s≤a)(k:a<h){f:r9}(g:r_ p (t.c9 a) f):r6 p b (a+1) h { t with fI:=fun i=>if i=a then f else t.fI i }:=by
 have b7:=c.Br;have m:=c.nn;refine⟨c.CK,by show a+1≤2*t.s+1;omega,by show h=2*min (a+1) t.s+1;omega,c.b0,c.w4,fun i hi=>c.sp i (by change i<min (a+1) t.s at hi;omega),fun i d l=>?_⟩;show r_ p (t.c9 i) (if i=a then f else t.fI i);by_cases e:i=a
 ·subst e;rw[ak rfl];exact g
 ·rw[aj e];exact c.fI i d aa
theorem Gn(i:Nat):nY i≤57:=by unfold nY;split;decide;split;decide;decide
theorem alU(h:a≤2):nY a+nY a+7≤nY (2*a+1)∧nY (2*a+1)=nY (2*a+2)∧nY a≤nY (2*a+1):=by
 have:a=0∨a=1∨a=2:=aa;rcases this with rfl|rfl|rfl<;>decide
theorem TU{l:List cc}(c:yI h L l){i:Nat}(hi:i<L){a:Rat}(p:a_ u a)(b:h≤u)(g:qk a (l.getD i gR)):yI u L (pB l i a)∧yI u L (pL l i a):=by
 obtain⟨o,f⟩:=c;obtain⟨y,r,q⟩:=iM (aa:i<l.length);have j:l.getD i gR=y:=by rw[bX,q];rfl
 obtain⟨⟨s,t⟩,v⟩:=f y r;rw[j]at g;refine⟨⟨by unfold pB;rw[gT];exact o,fun x d=>?_⟩,⟨by unfold pL;rw[gT];exact o,fun x d=>?_⟩⟩
 ·unfold pB at d;rcases List.mem_or_eq_of_mem_set d with c|rfl
  ·obtain⟨⟨k,m⟩,n⟩:=f x c;exact⟨⟨k.mono b,m.mono b⟩,n⟩
  ·rw[j];exact⟨⟨s.mono b,p⟩,fun e _=>g.1 e⟩
 ·unfold pL at d;rcases List.mem_or_eq_of_mem_set d with c|rfl
  ·obtain⟨⟨k,m⟩,n⟩:=f x c;exact⟨⟨k.mono b,m.mono b⟩,n⟩
  ·rw[j];exact⟨⟨p,t.mono b⟩,fun _ e=>g.2 e⟩
def aO.rS(t:aO)(n q:Nat)(a:Rat):aO:= { t with v:=fun i=>if i=n then q else t.v i,a:=fun i=>if i=n then a else t.a i,bs:=fun i=>if i=2*n+1 then pB (t.bs n) q a else if i=2*n+2 then pL (t.bs n) q a else t.bs i }
theorem r6.split{p:fz}{b:List cc}{t:aO}(c:r6 p b h u t)(B:h<t.s){a:Rat}(l:L<p.n)(j:a_ (nY h+nY h+7) a)(k:qk a ((t.bs h).getD L gR)):r6 p b (h+1) (u+2) (t.rS h L a):=by
 have b7:=c.Br;have y:=c.CK;obtain⟨z,A,bA⟩:=alU (aa:h≤2);obtain⟨r,w⟩:=TU (c.w4 h aa) l (j.mono z) bA k;have d:∀i,i≠2*h+1→i≠2*h+2→(t.rS h L a).bs i=t.bs i:=fun i f g=>by
  show(if i=2*h+1 then _ else if i=2*h+2 then _ else t.bs i)=_;rw[aj f,aj g]
 have hl:(t.rS h L a).bs (2*h+1)=pB (t.bs h) L a:=ak rfl;have m:(t.rS h L a).bs (2*h+2)=pL (t.bs h) L a:=by
  show(if 2*h+2=2*h+1 then _ else if 2*h+2=2*h+2 then _ else t.bs _)=_;rw[aj aa,ak rfl]
 have o:∀i,i≠h→(t.rS h L a).v i=t.v i∧(t.rS h L a).a i=t.a i:=fun i e=>⟨aj e,aj e⟩
 have q:(t.rS h L a).v h=L∧(t.rS h L a).a h=a:=⟨ak rfl,ak rfl⟩;refine⟨y,by show h+1≤2*t.s+1;omega,by show u+2=2*min (h+1) t.s+1;omega,by rw[d 0 aa aa];exact c.b0,fun i hi=>?_,fun i hi=>?_,fun i x C=>?_⟩
 ·by_cases f:i=2*h+1
  ·subst f;rw[hl];exact r
  ·by_cases g:i=2*h+2
   ·subst g;rw[m,←A];exact w
   ·rw[d i f g];exact c.w4 i aa
 ·change i<min (h+1) t.s at hi;rw[d i aa aa];by_cases e:i=h
  ·subst e;rw[q.1,q.2,hl,m];exact⟨l,j.mono (by have:=Gn (2*i+1);omega),k,rfl,rfl⟩
  ·rw[(o i e).1,(o i e).2,d (2*i+1) aa aa,d (2*i+2) aa aa];exact c.sp i aa
 ·change t.s≤i at x;omega
theorem r6.ok{p:fz}{b:List cc}{t:aO}(h:r6 p b (2*t.s+1) a t)(f:∀x∈b,iK 9 x∧(x.hl=true→x.hh=true→x.lo<x.hi)):t.aA p:=by
 have b7:=h.Br;refine⟨h.CK,fun n c=>(h.w4 n aa).1,fun n c x d=>?_,fun n c=>(h.sp n aa).1,fun n c=>(h.sp n aa).2.1,fun n c=>(h.sp n aa).2.2.1,fun n c=>(h.sp n aa).2.2.2.1,fun n c=>(h.sp n aa).2.2.2.2,fun n e j=>h.fI n e aa,fun x d=>f x (by rw[←h.b0];exact d)⟩;obtain⟨g,i⟩:=((h.w4 n aa).2 x d).1;have:=Gn n;exact⟨g.mono aa,i.mono aa⟩
theorem Rp(b:f→List V):∀m:List f,iF (m.map b)=bC b m
 |[]=>rfl
 |a::m=>by show b a++iF (m.map b)=b a++bC b m;rw[Rp b m]
def SQ(b d a c:Nat):Prop:=b≠a∧(d=0∨d≠a∧d≠c∧d≠b∧12≤d)∧(c=0∨c≠b∧c≠a∧12≤c)∧10≤b∧b≠11∧10≤a∧a≠11
def tv:List V:=[ah 0,ah 0,.str [],ah 0,ah 0,ah 0,.an,.an,ah 0]
structure SR (l:List Int) (p:fz) (b:List cc) (TJ:Rat) (k:Nat) (F:Fr) (H:af) (n N:Nat) (t:aO) (L:List (List V)) (ys:List V) (So:V) (JR Ow:Nat) (Sm:V) (JQ Ov:Nat):Prop where
 auL:k=2*t.s+1-n
 d:r6 p b n N t
 f:rd 0 F=.ptr 5 0∧rd 7 F=.ptr 6 0∧rd 11 F=.ptr 8 0∧rd 12 F=.ptr 9 0∧rd 13 F=.ptr 11 0∧rd 14 F=Sm∧rd 15 F=ah ((t.s-n:Nat):Int)∧rd 16 F=ah (n:Int)
 tp:∃i,i≤l.length∧H.get 5=.cells (cB l i) 0
 auV:H.get 6=.cells [ah (p.n:Int),ah (p.n:Int),bG p.obj,fZ p.n p.is,fZ p.n p.es] 0
 eR:H.get 8=.cells [ah 0,aD,.an,aD,.an] 0
 cM:H.get 9=.cells [.an,.str [],.an] 0
 oC:H.get 11=.cells [b4 cw (b.map eE),.str (bh TJ),So] 0
 awd:iJ H 9 N So (iF L) JR Ow
 atl:L.length=N∧(∀r∈L,r.length=9)∧∀i,i<n→L[i]? =some (dy p.n (t.nd i))
 awc:iJ H 1 N Sm ys JQ Ov
 atk:∀i,i<N→ys[i]? =some (c6 (t.bs i))
 auH:SQ JR Ow JQ Ov
 hn:12≤H.next
variable{N:List Int}
theorem IT{H:af}{v:V}(d:iJ H a h v b u L)(e:hM N H.next H c)(f:u≠5)(h2:L=0∨L≠5):iJ c a h v b u L:=
 d.keep (e.k u d.lt f) (by
  rcases d.t_ with h3|h3
  ·exact .inl h3
  ·rcases h2 with h2|h2
   ·exact .inl h2
   ·exact .inr (e.k L h3 h2)) e.n.1
set_option maxHeartbeats 2000000 in
theorem ahQ(l:List Int)(hl:l.length≤400)(hz:hL l)(p:fz)(hp:p.aA)(b:List cc)(hb:yI 9 p.n b)(j:Rat)(fw:a_ 81 j):kT l 33 [fD p,c6 b,bw j,ah 3,.agg xH] fun v=>∃t:aO,t.aA p∧t.bs 0=b∧v=.agg (eL t p.n j):=by
 have hn:=hp.n;have dC:=lE l hl hz;obtain⟨fv,a'⟩:=hb;have d8:=ar_ b 9 ag aa (fun G hs=>(a' G hs).1);have d2:=uH j fw ag;refine nD (.cons (oA _) (.cons (lq _) (.cons (fX _) (.cons (.int _ _) (.cons (.agg (.cons (.int _ _) (.cons (.bool _) (.cons .an (.cons (.bool _) (.cons .an .nil)))))) .nil))))) fun i0 f0=>cV Tryz.f33 (h:=?_)
 simp only[go_sem,xH,fD,bw,aV,ij,cX]at d2 d8⊢;refine use d8 ?_;simp only[go_sem,cX];refine use d2 ?_;simp only[go_sem,cX];refine eX (dC 4 ag) ag f0 ?_ ?_
 ·simp only[go_sem,lT,cX]
 rintro _ i1 ⟨G,hs,rfl⟩ f1;simp only[go_sem];refine bH (fun ea F H=>∃c N t L V I B w ce Q C,SR l p b j ea F H c N t L V I B w ce Q C) (2*G+1) ⟨0,1,⟨G,fun _=>0,fun _=>0,fun _=>.vT,fun _=>b⟩,[tv],[c6 b],.slice 10 0 1 (.known 1),10,0,.slice 12 0 1 (.known 1),12,0,⟨rfl,⟨by show G≤3;omega,bQ _,?_,rfl,fun i hi=>?_,fun i hi=>?_,fun i h1 h2=>(ke _ h2).elim⟩,?_,⟨i1,f1,?_⟩,?_,?_,?_,?_,⟨?_,.inl ⟨rfl,rfl⟩,rfl,?_⟩,⟨rfl,fun r D=>?_,fun i hi=>(ke _ hi).elim⟩,⟨?_,.inl ⟨rfl,rfl⟩,rfl,?_⟩,fun i hi=>?_,⟨ag,.inl rfl,.inl rfl,ag,ag,ag,ag⟩,?_⟩⟩ ?_
 ·show 1=2*min 0 G+1;omega
 ·have:i=0:=aa;subst this;exact⟨fv,a'⟩
 ·change i<min 0 G at hi;omega
 ·simp only[go_sem,cX];simp
 iterate 5 simp only[go_sem,cX]
 ·simp only[go_sem,cX];rfl
 ·simp only[go_sem,cX]
 ·rw[dj.1 D];rfl
 iterate 2 simp only[go_sem,cX]
 ·have:i=0:=aa;subst this;rfl
 ·simp only[go_sem,cX];omega
 rintro ea F H ⟨c,N,t,L,V,I,B,w,ce,Q,C,⟨hg,o,⟨R,f7,a5,a6,u,a7,ac,z⟩,⟨i2,ba,a8⟩,dd,eR,cM,oC,E,⟨co,X,a0⟩,M,aw,da,ht⟩⟩;have b7:=o.Br;have hv:=o.CK;have hr:=o.nn;have ae:=E.ama;by_cases h:c<N
 ·have c1:((c:Int)<(N:Int))=True:=eq_true aa;have ds:=M.cz (i:=(c:Int)) (ik:=.i64) aa;have du:=M.bp 1 c;rw[Gs,gF,aw c h]at du;obtain⟨y5,vc⟩:=o.w4 c h;have hA:cT (c6 (t.bs c))=some (.val (ah ((t.bs c).length:Int))):=rfl;simp only[go_sem]at ds;simp only[go_sem,R,f7,u,a7,ac,z,oC,dd,ae,c1,ds,du];refine eX (dC p.n ⟨aa,aa⟩) ag ba a8 ?_;rintro _ i3 ⟨q,hq,rfl⟩ f2;obtain⟨x,f8,A⟩:=iM (aa:q<(t.bs c).length);obtain⟨⟨g2,g'⟩,hc⟩:=vc x f8;have D:=ia l8 A;have ho:=Gn c;have d9:(t.bs c).getD q gR=x:=by rw[bX,A];rfl
  simp(disch:=omega)only[go_sem,c6,ff,D,R];refine eX (TB l hl hz x (nY c) (nY c) aa g2 g' hc) ag f2 ?_ ?_
  ·simp only[go_sem]
  rintro _ i4 ⟨a,ha,dk,rfl⟩ dq;simp only[go_sem,bw,aV,ac];obtain⟨d1,Y,d3,d4,d5,d6,d7⟩:=da;have he:=E.lt;have hd:=M.lt;have hk:=E.t_;have hj:=M.t_;have hy:hM l H.next H H:=⟨⟨i2,ba,a8⟩,fun _ _ _=>rfl,aE _,aa⟩
  obtain⟨g,m⟩:∃g,g=(((H.set 5 (.cells (cB l i3) 0)).set 5 (.cells (cB l i4) 0)).push (.cells [aD,.an,aD,.an] 0)).set H.next (.cells (aV a) 0):=⟨_,rfl⟩
  have K:hM l H.next H g:=by rw[m];exact Gp
  have a1:g.get H.next=.cells (aV a) 0:=by rw[m];simp only[go_sem]
  have y1:g.next=H.next+1:=by rw[m];rfl
  have es:g.get 5=.cells (cB l i4) 0:=by rw[m];simp only[go_sem,b8 (aa:5<H.next)]
  simp only[aV]at m a1;rw[←m];clear m;have ca:=IT E K aa aa;have eh:=IT M K aa aa;have cd:=(K.k 6 aa ag).trans dd;have u8:=(K.k 8 aa ag).trans eR;have et:=(K.k 9 aa ag).trans cM;have O:=(K.k 11 aa ag).trans oC;have bb:=ca.cz (i:=(c:Int)) (ik:=.i64) aa;simp only[go_sem]at bb;have w1:aC .i64 ((c:Int)+1)=((c+1:Nat):Int):=by rw[aH _ aa];omega
  have e':∀x∈t.bs c,iK 90 x:=fun x A=>⟨(vc x A).1.1.mono aa,(vc x A).1.2.mono aa⟩
  by_cases f5:t.s≤c
  ·have c2:(((t.s-c:Nat):Int)=0)=True:=eq_true aa;have dt:=alP l hl hz p hp (t.bs c) y5 e';simp only[xH,fD,c6]at dt;simp only[go_sem,c2,R,f7,a5,u,z,cd,u8,O];refine aru dt ag dq es ?_;rintro _ i5 ⟨f,hf,rfl⟩ f3;obtain⟨n1,n2,gc⟩:=Ch p.n (.leaf f);have ap:=ca.keep (H':=g.set 5 (.cells (cB l i5) 0)) (by rw[af.aK,aj aa]) (by
    rcases Y with d|d
    ·exact .inl d
    ·exact .inr (by rw[af.aK,aj aa])) (aE _)
   obtain⟨H2,T,ar,W,cf⟩:=ap.st (CH L c (dy p.n (.leaf f)) X (sY _ _) aa) rfl rfl n1 n2 (w:=.agg (dy p.n (.leaf f))) (m:=9);have P:∀y,y≠B→(w=0∨y≠w)→y≠5→H2.get y=g.get y:=fun y q1 eb ge=>by rw[W y q1 eb,af.aK,aj aa]
   simp only[go_sem,O,bb,T,z,w1];refine⟨2*t.s+1-(c+1),aa,c+1,N, { t with fI:=fun i=>if i=c then f else t.fI i },_,V,I,B,w,ce,Q,C,⟨rfl,o.leaf f5 h hf,⟨?_,?_,?_,?_,?_,?_,?_,?_⟩,⟨i5,f3,?_⟩,?_,?_,?_,?_,ar,⟨?_,?_,?_⟩,eh.keep ?_ ?_ ?_,aw,⟨d1,Y,d3,d4,d5,d6,d7⟩,?_⟩⟩
   iterate 6 simp only[go_sem,R,f7,a5,a6,u,a7]
   ·simp only[go_sem,ac];rw[(aa:t.s-c=t.s-(c+1))]
   ·simp only[go_sem]
   ·rw[W 5 aa aa,af.aK,ak rfl]
   ·rw[P 6 aa aa ag];exact cd
   ·rw[P 8 aa aa ag];exact u8
   ·rw[P 9 aa aa ag];exact et
   ·rw[P 11 aa aa ag];exact O
   ·rw[gT];exact co
   ·intro r D;rcases List.mem_or_eq_of_mem_set D with h|rfl
    ·exact X r h
    ·exact sY _ _
   ·intro i hi;rw[oU];by_cases e:c=i
    ·subst e;rw[ak rfl,ak aa];unfold aO.nd;rw[aj (by show¬c<t.s;omega)];show _=some (dy p.n (.leaf (if c=c then f else t.fI c)));rw[ak rfl]
    ·rw[aj e,a0 i aa];unfold aO.nd;show some (dy p.n (if i<t.s then _ else .leaf (t.fI i)))=some (dy p.n (if i<t.s then _ else .leaf (if i=c then f else t.fI i)));rw[aj (Ne.symm e)]
   ·exact P Q aa aa aa
   ·rcases d3 with d|d
    ·exact .inl d
    ·exact .inr (P C aa aa aa)
   ·rw[cf];exact aE _
   ·rw[cf];show 12≤g.next;omega
  ·have c2:(((t.s-c:Nat):Int)=0)=False:=eq_false aa;have w2:aC .i64 (((t.s-c:Nat):Int)-1)=((t.s-(c+1):Nat):Int):=by rw[aH _ aa];omega
   have dp:=Q6 (t.bs c) ⟨aa,aa⟩ q aa a (ha.mono aa) (fun x A=>⟨(vc x A).1.1.mono aa,(vc x A).1.2.mono aa⟩) (by rw[d9];exact dk);have d0:=uH a (ha.mono (aa:_≤200)) ag;simp only[c6,bw,aV]at dp d0;have hB:=b8 (aa:5<H.next)
   have w3:aC .i64 ((N:Int)+1)=((2*c+2:Nat):Int):=by rw[aH _ aa];omega
   have g1:(N:Int)=((2*c+1:Nat):Int):=aa;simp only[go_sem,c2,w2,u,ac,z,a1];refine use dp ?_;simp only[go_sem,u,z,O,a1,ae,w3];refine use d0 ?_;obtain⟨n1,n2,gc⟩:=Ch p.n (.split q a (2*c+1) (2*c+2));obtain⟨H2,T,ar,W,cf⟩:=ca.st (CH L c (dy p.n (.split q a (2*c+1) (2*c+2))) X (sY _ _) aa) rfl rfl n1 n2 (w:=.agg (dy p.n (.split q a (2*c+1) (2*c+2)))) (m:=9);simp only[dy]at T;rw[←g1]at T;have ev:=(W 11 aa aa).trans O;simp only[go_sem,u,z,O,ae,w3,bb,T,ev];refine NF (bytes:=112) (m:=2) (new:=tv++tv) ar ag aa rfl ag rfl ⟨by rw[ar.len];show N*9+18≤_;omega,ag⟩ fun U J cp g3 em q1 eb ge ed hE=>?_
   have fa:=(ed 11 aa aa).trans ev;obtain⟨p3,b1,b2⟩:=em.bg;have cb:=em.keep (H':=J.set 11 (.cells [b4 cw (b.map eE),.str (bh j),U] 0)) (by rw[af.aK,aj aa]) (by
    rcases q1 with⟨_,d⟩|⟨d,e⟩
    ·exact .inr (by rw[af.aK,aj aa])
    ·exact .inr (by rw[af.aK,aj aa])) (aE _)
   have be:∀y,y<H.next→y≠B→(w=0∨y≠w)→y≠11→(J.set 11 (.cells [b4 cw (b.map eE),.str (bh j),U] 0)).get y=g.get y:=fun y m Z ab a4=>by
    rw[af.aK,aj (Ne.symm a4),ed y aa ab,W y Z ab]
   have el:=eh.keep (H':=J.set 11 (.cells [b4 cw (b.map eE),.str (bh j),U] 0)) (be Q aa aa aa aa) (by
    rcases d3 with d|d
    ·exact .inl d
    ·exact .inr (be C aa aa aa aa)) (by show g.next≤J.next;omega)
   have bo:(J.set 11 (.cells [b4 cw (b.map eE),.str (bh j),U] 0)).next=J.next:=rfl
   simp only[go_sem,u,a7,fa,p3,b1,b2];refine NF (bytes:=24) (m:=2) (new:=[b4 ez (nV (t.bs c) q a).1,b4 ez (nV (t.bs c) q a).2]) el ag aa rfl ag rfl ⟨by rw[el.len];show N*1+2≤_;omega,ag⟩ fun v4 H4 e2 g4 gs r1 r2 hF S go=>?_
   rw[bo]at r1 r2 S go;have e1:=cb.lt;have fp:=cb.t_;rw[bo]at e1 fp;simp only[go_sem,z,w1];have am:∀y,y<H.next→y≠B→(w=0∨y≠w)→y≠11→(C=0∨y≠C)→H4.get y=g.get y:=fun y m Z ab a4 fb=>(S y aa fb).trans (be y m Z ab a4)
   have eq:=cb.keep (H':=H4) (S cp aa aa) (by
    by_cases e:g3=0
    ·exact .inl e
    ·exact .inr (S g3 aa aa)) (by rw[bo];omega)
   have hw:=M.len;have f6:=o.split aa aa ha (by rw[d9];exact dk);have fg:∀i,i<N→(t.rS c q a).bs i=t.bs i:=fun i hi=>by
    show(if i=2*c+1 then _ else if i=2*c+2 then _ else t.bs i)=_;rw[aj aa,aj aa]
   have fn:iF (L.set c (dy p.n (.split q a (2*c+1) (2*c+2))))++(tv++tv)=iF (L.set c (dy p.n (.split q a (2*c+1) (2*c+2)))++[tv,tv]):=by
    unfold iF;rw[qL];show _=_++(tv++(tv++[]));rw[fG]
   rw[fn]at eq;refine⟨2*t.s+1-(c+1),aa,c+1,N+2,t.rS c q a,_,_,U,cp,g3,v4,e2,g4,⟨rfl,f6,⟨?_,?_,?_,?_,?_,?_,?_,?_⟩,⟨i4,dq,?_⟩,?_,?_,?_,?_,eq,⟨?_,?_,?_⟩,gs,?_,⟨aa,aa,aa,aa,aa,aa,aa⟩,aa⟩⟩
   iterate 6 simp only[go_sem,R,f7,a5,a6,u]
   ·simp only[go_sem];rfl
   ·simp only[go_sem]
   ·exact(am 5 aa aa aa aa aa).trans es
   ·exact(am 6 aa aa aa aa aa).trans cd
   ·exact(am 8 aa aa aa aa aa).trans u8
   ·exact(am 9 aa aa aa aa aa).trans et
   ·rw[S 11 aa aa,af.aK,ak rfl]
   ·rw[aS,gT,co];rfl
   ·intro r D;rcases gI.1 D with h|h
    ·rcases List.mem_or_eq_of_mem_set h with h|rfl
     ·exact X r h
     ·exact sY _ _
    ·simp only[g7,p6,or_false]at h;rcases h with rfl|rfl<;>rfl
   ·intro i hi;rw[lJ (by rw[gT];omega),oU];by_cases e:c=i
    ·subst e;rw[ak rfl,ak aa];unfold aO.nd;rw[ak (by show c<t.s;omega)];show _=some (dy p.n (.split (if c=c then q else t.v c) (if c=c then a else t.a c) (2*c+1) (2*c+2)));rw[ak rfl,ak rfl]
    ·rw[aj e,a0 i aa];unfold aO.nd;rw[ak aa,ak (by show i<t.s;omega)];show _=some (dy p.n (.split (if i=c then q else t.v i) (if i=c then a else t.a i) (2*i+1) (2*i+2)));rw[aj (Ne.symm e),aj (Ne.symm e)]
   ·intro i hi;by_cases e:i<N
    ·rw[lJ aa,fg i e];exact aw i e
    ·rw[q4 aa];by_cases Z:i=N
     ·rw[(aa:i-V.length=0)];show some _=some (c6 (if i=2*c+1 then _ else _));rw[ak aa];rfl
     ·rw[(aa:i-V.length=1)];show some _=some (c6 (if i=2*c+1 then _ else if i=2*c+2 then _ else _));rw[aj aa,ak aa];rfl
 ·have c1:((c:Int)<(N:Int))=False:=eq_false aa;have bE:c=2*t.s+1∧N=2*t.s+1:=aa;obtain⟨fi,hh⟩:=bE;obtain⟨d1,Y,d3,d4,d5,d6,d7⟩:=da;obtain⟨p3,b1,b2⟩:=E.bg;have fd:L=t.gf.map (dy p.n):=by
   refine si fun i=>?_
   by_cases hi:i<c
   ·rw[a0 i hi,aO.gf,iy,iy,wG aa];rfl
   ·rw[kO aa,kO (by rw[g5,aO.gf,g5,List.length_range];omega)]
  rw[fd,Rp]at E;have ap:=E.keep (H':=H.set 9 (.cells [b4 cw (b.map eE),.str (bh j),I] 0)) (by rw[af.aK,aj aa]) (by
   rcases Y with d|d
   ·exact .inl d
   ·exact .inr (by rw[af.aK,aj aa])) (aE _)
  simp only[go_sem,a6,u,z,cM,oC,ae,c1,p3,b1,b2];rw[fi]at o;have dl:bR (H.set 9 (.cells [b4 cw (b.map eE),.str (bh j),I] 0)) (af.one 5 H.next (cB l i2)) I (b4 (dy p.n) t.gf):=by
   have f4:t.gf.length=N:=by rw[aO.gf,g5,List.length_range];omega
   have hm:=ap.cS;have h0:(af.one 5 H.next (cB l i2)).get B=.none:=by rw[af.kE,aj aa]
   show bR _ _ I (.row t.gf.length (bC (dy p.n) t.gf));rw[f4];rcases ap.tn with⟨_,rfl⟩|⟨_,rfl,_⟩
   ·exact .row hm aa h0 (cD.refl _)
   ·exact .row hm aa h0 (cD.refl _)
  have e0:(b.map eE)=t.c9 0:=by unfold aO.c9;rw[o.b0]
  refine⟨i2,.agg (eL t p.n j),ba,a8,.agg ?_,.agg (BF _ _ _),t,o.ok a',o.b0,rfl⟩;rw[e0];rw[e0]at dl;exact .cons (.same _) (.cons (.same _) (.cons dl .nil))
end
end Go.Proofs.YtddhncjmaahodaaGreatDoor
