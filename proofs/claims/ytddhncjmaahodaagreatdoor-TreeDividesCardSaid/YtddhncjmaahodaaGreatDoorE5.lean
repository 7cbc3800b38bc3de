/- The law TreeDivides of the package sosoptlaw40 holds: the given statement, whole. No conditions. -/
import Derived.Test.YtddhncjmaahodaaGreatDoorE4
import Derived.Test.YtddhncjmaahodaaGreatDoorRows
import Derived.ProofKit
import Derived.LaidMore
import Derived.OpenShut
import Derived.Stop.Joined
import Derived.ChangeMaps5
import Derived.Test.YtddhncjmaahodaaGreatDoorProg
import Derived.KernelRfl
import GoSem.ClaimDataLaid
import GoSem.ClaimGoes
import Derived.Test.YtddhncjmaahodaaGreatDoorCards
import Derived.SevenTiedAt
import Derived.Test.YtddhncjmaahodaaGreatDoorTie
set_option linter.all false
noncomputable section
open Bool renaming and_eq_true→cC,eq_false_iff→lq,false_eq_true→iM
open Go.Proofs.Tryz renaming f45→kZ,f6→e5,prog→eO
open Int renaming toNat_natCast→bH
open List renaming append_nil→fN,cons_append→eL,ext_getElem?→uQ,getD_eq_getElem?_getD→cy,getElem?_append_left→p8,getElem?_eq_getElem→cx,getElem?_eq_none→m0,getElem?_eq_some_iff→gZ,getElem?_map→iW,getElem?_range→tw,getElem?_set→r7,length_append→aV,length_cons→cV,length_map→iu,length_set→gE,length_take→dP,mem_append→hN,mem_map→kT,mem_of_getElem?→eN,mem_of_mem_take→uS,mem_singleton→ec,nil_append→eE,range'→tB,range→p_
open Nat renaming add_zero→cG,ble→bL,le_of_ble_eq_true→kV,le_refl→aF,le_trans→cH,mul_le_mul→jX,mul_one→ef,not_lt_zero→m5,succ_ne_zero→sj,succ_pos→m7,zero_add→eJ
namespace Go.Proofs.YtddhncjmaahodaaGreatDoor
section
open Go.au Go.aD
set_option maxRecDepth 100000
attribute [local irreducible] rd kc ex bF bC re rg mv bN pick alloc box bi bs ba be bq st fa b6 cF cZ cQ c9 dO dN ms cY dF dD dn mx mn dm ap dy cw dr dw bY dx ext dJ neg Go.au.not dG dB dI dH dM dK dz dL dc c_ u8
variable{h:Nat}{u:Nat}{c:af}{H:V→af→Prop}
theorem T6{P:Program}(f:e4 P h (.fn u) [.ak] c H)(g:e4 P h (.fn u) [.emp] c H):e4 P h (.fn u) [.row 0 []] c H:=by
 refine⟨f.1,fun e w n d b l=>?_⟩;cases l with
 |cons j k=>
  cases k with
  |nil=>
   cases j with
   |fj a i m=>
    cases a with
    |none=>rw[m rfl];exact f.2 e w _ d b (.cons .ak .nil)
    |some a=>exact g.2 e w _ d b (.cons (.emp a i) .nil)
   |row _ _ _ _=>exact g.2 e w _ d b (.cons (.emp _ _) .nil)
theorem Ks(e:List Nat)(h:e.length≤1000):aS 228 [bI e] (bI e):=by
 by_cases b:0<e.length
 ·exact Kr e ⟨b,h⟩
 ·have:e=[]:=List.length_eq_zero_iff.1 aa;subst this;refine gh (.cons (.row 0 .nil) .nil) ?_;refine T6 (cN Tryz.f228 (h:=?_)) (cN Tryz.f228 (h:=?_))
  ·have a:nh false (.slice 3) [.ak,.ak]=some (.val bE):=rfl;simp only[go_sem,a];exact⟨_,.fL,.row 0 .nil,rfl⟩
  ·have a:nh false (.slice 3) [.emp,.ak]=some (.val aC):=rfl;simp only[go_sem,a];show jY eO 5 _ _ (put _ (some 7) (.slice 5 0 0 (.known 0))) _;simp only[go_sem];exact⟨_,.fj _ _ _,.row 0 .nil,rfl⟩
theorem SA:∀l:List ax,jd l=br mj l
 |[]=>rfl
 |t::l=>by rw[jd,SA l];rfl
theorem KB(n:Nat)(p:List ax)(B:∀t∈p,t.2.length≤1000)(hl:p.length≤4096):aS 349 [.agg [ah n,eD p]] (.agg [ah n,eD p]):=by
 have e:eD p=bu mj p:=by unfold eD;rw[SA];rfl
 refine gh (.cons (sD n p) .nil) (cN Tryz.f349 (h:=?_));have C:bA (.agg [ah n,bu mj p]):=by rw[←e];exact sD n p
 have d:∀t:ax,(mj t).length=2:=fun _=>rfl
 rw[e];simp only[go_sem,nY];refine each p.length [2,3,10,11] 7 (fun m F H=>8≤H.next∧∃v g,H.get 7=.cells [ah n,v] 0∧aH H 2 v (br mj (p.take m)) g∧(g=0∨7<g)) ?_ ?_ aa ag (kV rfl) (fun _ _ _ _ _ _ h=>h) ⟨aF 8,.ak,0,by simp only[go_sem],.nil,.inl rfl⟩ ?_ ?_
 iterate 2 simp only[go_sem]
 ·rintro m w c G a hh hi ⟨A,v,g,bh,b,D⟩;simp only[go_sem]at a;obtain⟨t,J,q⟩:=iR G;have I:=gi d q;have r:=bG (aa:c.next<c.next+1)
  have f:=bG (aa:7<c.next)
  simp(disch:=omega)only[go_sem,a,hi,eU,I,mj,r,f,bh];refine use (Ks t.2 (B t J)) ?_;simp only[go_sem,a,r,f,bh];have E:=aH.ps b [.str [],.ak] (.cells (mj t) 0);have R:=fO mj d (p.take m);have Q:(p.take m).length≤4096:=by rw[dP];omega
  refine gA (bytes:=40) (new:=mj t) E rfl ag rfl ⟨aa,ag⟩ fun N x z s L l M=>?_
  simp only[go_sem]at L l M;have u:x.get 7=.cells [ah n,v] 0:=by rw[l _ aa (b.ne bh)];simp only[f,if_false,bh]
  obtain⟨i,j,k⟩:=s.aZ;simp only[go_sem,a,hi,u,i,j,k];refine⟨en.set ⟨fun y K=>?_,aa⟩ (aF _) _,aa,N,z,rfl,?_,aa⟩
  ·rw[l y aa aa,aj aa,aj aa];exact hh.1 y K
  ·rw[rO q];exact s.set u _
 ·rintro w c a hh ⟨A,v,g,bh,b,D⟩;simp only[go_sem]at a;rw[rT]at b;obtain⟨i,j,k⟩:=b.aZ;have o:c.get 6=.cells [ah 0,.ak] 0:=by rw[hh.1 6 aa];simp only[go_sem]
  simp only[go_sem,a,o,bh,i,j,k];exact⟨_,.agg (.cons (.same _) (.cons (mH d ag (b.set o _) (cD.refl _) (fun y O P=>af.e7 _ _) (fO mj d _)) .nil)),C,rfl⟩
theorem UP(n:Nat)(p:List ax)(a:∀t∈p,t.2.length≤1000)(hl:p.length≤4096):aS 289 [jR n p] (jR n p):=by
 refine gh (.cons (.agg (qo n p)) .nil) (cN Tryz.f289 (h:=?_));simp only[go_sem,jR,eR,bS,mL];refine use (KB n p a hl) ?_;simp only[go_sem,mL];refine use (KB n [] (fun _ h=>by cases h) ag) ?_;simp only[go_sem,mL];exact fG rfl (.agg (qo n p))
theorem KC(n:Nat)(c:n=1∨n=2)(p:List ax)(h:iX n p):aS 289 [jR n p] (jR n p):=
 UP n p (fun b a=>by have:=(h.t b a).len;omega) (by have:=h.len;omega)
theorem UN(b:Nat)(hn:b=1∨b=2)(k e:Nat)(he:e≤16)(c:nH)(R:c.az b k e):aS 220 [.agg (gS b c)] (.agg (gS b c)):=by
 have df:=R.zi;have dd:=R.lm;refine gh (.cons (.agg (tR b c)) .nil) (cN Tryz.f220 (h:=?_));simp only[go_sem,gS];refine each c.ps.length [1,2,3,15,16] 7 (fun m F H=>8≤H.next∧∃v A g,H.get 7=.cells [ah 1,v,.ak] 0∧aH H 2 v A g∧jq H g A (br (kq b) (c.ps.take m))∧A.length=m*2∧(g=0∨7<g)) ?_ ?_ aa ag (kV rfl) (fun _ _ _ _ _ _ h=>h) ⟨aF 8,.ak,[],0,by simp only[go_sem],.nil,.nil,rfl,.inl rfl⟩ ?_ ?_
 iterate 2 simp only[go_sem]
 ·rintro m ba d hm l hh hi ⟨h8,v,A,g,bh,G,S,ar,b0⟩;simp only[go_sem]at l;obtain⟨a,Y,E⟩:=iR hm;have hr:=gi (xO b) E;have hp:=R.ps a Y;have cs:=hp.li;have dp:=hp.ls;have J:=bG (aa:d.next<d.next+1)
  have cp:=bG (aa:7<d.next)
  have aw:aZ (bI a.is)=true∧cellsOf (bI a.is)=[bI a.is]∧V.one (bI a.is)=true:=⟨rfl,rfl,rfl⟩;simp(disch:=omega)only[go_sem,l,hi,eU,hr,kq,J,cp];refine use (Ks a.is cs) ?_;simp only[go_sem,aw,J];refine each a.gr.length [1,2,3,15,16,17,6,26,27] (d.next+1) (fun j F H=>d.next+1<H.next∧∃f p,H.get (d.next+1)=.cells [bI a.is,f] 0∧aH H 7 f (br (iA b) (a.gr.take j)) p∧(p=0∨d.next+1<p)) ?_ ?_ aa ag (by simp only[go_sem];omega) (fun _ _ _ _ _ _ h=>h) ⟨by simp only[go_sem];omega,.ak,0,by simp only[go_sem],.nil,.inl rfl⟩ ?_ ?_
  iterate 2 simp only[go_sem]
  ·rintro j bc t hj w ae a8 ⟨c0,f,p,B,i,ab⟩;simp only[go_sem,l]at w;obtain⟨s,cb,hs⟩:=iR hj;have ca:=gi (pP b) hs;have cd:=hp.gr s cb;have I:=KC b hn s.r cd.r;have m1:=bG (aa:d.next+1<t.next)
   have m2:=bG (aa:d.next+1<t.next+1)
   have dk:=bG (aa:t.next<t.next+1)
   simp only[jR,eR,bS,eL,eE]at I;simp(disch:=omega)only[go_sem,w,a8,eU,ca,iA,eR,bS,mL,m1,m2,B];refine use I ?_;simp only[go_sem,w,m1,m2,B,mL];have Z:=aH.ps i [.str [],.str [],ah 0,ah 0,.ak,ah 0,.ak] (.cells (iA b s) 0);have cf:=fO (iA b) (pP b) (a.gr.take j);have ce:(a.gr.take j).length≤2:=by rw[dP];omega
   refine gA (bytes:=104) (new:=iA b s) Z (pP b s) ag (RJ b s) ⟨aa,ag⟩ fun v3 X C x U o N=>?_
   simp only[go_sem]at U o N;have O:X.get (d.next+1)=.cells [bI a.is,f] 0:=by rw[o _ aa (i.ne B)];simp only[m1,m2,if_false,B]
   obtain⟨K,L,M⟩:=x.aZ;simp only[go_sem,l,w,a8,O,K,L,M];refine⟨en.set ⟨fun y u=>?_,aa⟩ (aF _) _,aa,v3,C,rfl,?_,aa⟩
   ·rw[o y aa aa,aj aa,aj aa];exact ae.1 y u
   ·rw[rO hs];exact x.set O _
  ·rintro bc t w ae ⟨c0,f,p,B,i,ab⟩;simp only[go_sem,l]at w;rw[rT]at i;obtain⟨l3,l4,T⟩:=i.aZ;have Q:∀y,y<d.next→t.get y=d.get y:=fun y u=>by
    rw[ae.1 y aa];simp only[go_sem,bG u,bG (aa:y<d.next+1)]
   have ac:aH t 2 v A g:=aH.oo G (eW.low Q aa);have db:=aH.lt G;have q:t.get 7=.cells [ah 1,v,.ak] 0:=(Q 7 aa).trans bh;have bv:jq t g (A++[bI a.is,f]) (br (kq b) (c.ps.take (m+1))):=by
    rw[rO E];exact(S.step (eW.low Q aa) (.inr (.inl rfl))).app (jq.app (xs:=[bI a.is]) (ys:=[bI a.is]) (fun _ _ _ _=>cD.refl _) (aH.xz i ac aa ag (fO (iA b) (pP b) a.gr)))
   simp only[go_sem,w,q,B,aw,l3,l4,T];refine gA (bytes:=48) (new:=[bI a.is,f]) ac rfl ag (by simp only[go_sem,aw,T]) ⟨aa,ag⟩ fun v4 X C x U o N=>?_
   have a5:X.get 7=.cells [ah 1,v,.ak] 0:=(o 7 aa (ac.ne q)).trans q;obtain⟨K,L,M⟩:=x.aZ;simp only[go_sem,w,a5,K,L,M,l,hi];refine⟨en.set ⟨fun y u=>?_,aa⟩ (aF _) _,aa,v4,_,C,rfl,x.set a5 _,bv.step ((eW.app o N).set a5 _) aa,?_,aa⟩
   ·rw[o y aa aa,Q y aa];exact hh.1 y u
   ·rw[aV,ar];show m*2+2=_;omega
 ·rintro ba d l hh ⟨h8,v,A,g,bh,G,S,ar,b0⟩;simp only[go_sem]at l;rw[rT]at S;obtain⟨bB,ch,ci⟩:=G.aZ;have be:d.get 5=.cells (gS b c) 0:=by rw[hh.1 5 aa];simp only[go_sem,gS]
  have bi:d.get 6=.cells [ah 0,.ak,.ak] 0:=by rw[hh.1 6 aa];simp only[go_sem]
  simp only[go_sem,l,be,gS];refine each c.ms.length [2,3,52,53] 7 (fun m F H=>eW 0 d H∧∃f p,H.get 7=.cells [ah 1,v,f] 0∧aH H 4 f (br (eR b) (c.ms.take m)) p∧(p=0∨d.next≤p)) ?_ ?_ aa ag aa (fun _ _ _ _ _ _ h=>h) ⟨.refl,.ak,0,bh,.nil,.inl rfl⟩ ?_ ?_
  iterate 2 simp only[go_sem]
  ·rintro m bb P hm z ad a7 ⟨D,f,p,q,i,ab⟩;simp only[go_sem,l]at z;obtain⟨a,Y,E⟩:=iR hm;have hr:=gi (pR b) E;have c':=D.n;have I:=KC b hn a (R.ms a Y);have a4:=bG (aa:7<P.next)
   have dl:=bG (aa:P.next<P.next+1)
   simp only[jR,eR,bS,eL,eE]at I;simp(disch:=omega)only[go_sem,z,a7,eU,hr,eR,bS,mL,a4,q];refine use I ?_;simp only[go_sem,mL,z,a4,q];have Z:=aH.ps i [ah 0,.ak,ah 0,.ak] (.cells (eR b a) 0);have cf:=fO (eR b) (pR b) (c.ms.take m);have ce:(c.ms.take m).length≤16:=by rw[dP];omega
   refine gA (bytes:=64) (new:=eR b a) Z (pR b a) ag rfl ⟨aa,ag⟩ fun v3 H4 C x U o N=>?_
   simp only[go_sem]at U o N;have O:H4.get 7=.cells [ah 1,v,f] 0:=by rw[o _ aa (i.ne q)];simp only[a4,if_false,q]
   obtain⟨K,L,M⟩:=x.aZ;simp only[go_sem,l,z,a7,O,K,L,M];refine⟨en.set ⟨fun y u=>?_,aa⟩ (aF _) _,⟨fun y u J n2=>?_,by simp only[go_sem];omega⟩,v3,C,rfl,?_,aa⟩
   ·rw[o y aa aa,aj aa,aj aa];exact ad.1 y u
   ·have b':7≠y:=by rintro rfl;exact J _ bh
    rw[af.aK,aj b',o y aa aa,aj aa,aj aa];exact D.a y u J n2
   ·rw[rO E];exact x.set O _
  ·rintro bb P z ad ⟨D,f,p,q,i,ab⟩;simp only[go_sem,l]at z;rw[rT]at i;have W:=(ad.1 6 aa).trans bi;obtain⟨l3,l4,T⟩:=i.aZ;simp only[go_sem,z,W,q,bB,ch,ci,l3,l4,T];have b1:=(aH.oo G D).set W (.cells [ah 1,v,f] 0);refine⟨_,.agg (.cons (.same _) (.cons (mH (xO b) ag b1 (S _ _ (fun y c2 k _ _=>af.e7 _ _) (D.trans (eW.refl.set W _) (.inl rfl)).to) (fun y h0 h1=>af.e7 _ _) ?_) (.cons (mH (pR b) ag (i.set W _) (cD.refl _) (fun y h0 h1=>af.e7 _ _) (fO (eR b) (pR b) _)) .nil))),.agg (tR b c),rfl⟩;exact ar
theorem Eb:aS 220 [.agg [ah 0,.ak,.ak]] (.agg [ah 0,.ak,.ak]):=by
 refine gh (.cons (.agg (.cons (.int _ _) (.cons .ak (.cons .ak .nil)))) .nil) (cN Tryz.f220 (h:=?_));simp only[go_sem,BV];refine each 0 [1,2,3,16] 8 (fun _ _ _=>True) ?_ ?_ ag ag (kV rfl) (fun _ _ _ _ _ _ h=>h) trivial (fun m _ _ h=>(m5 m h).elim) ?_
 ·simp only[go_sem]
 ·simp only[go_sem];rfl
 intro i e a hh _;simp only[go_sem]at a;have f:e.get 5=.cells [ah 0,.ak,.ak] 0:=by rw[hh.1 5 aa];simp only[go_sem]
 simp only[go_sem,a,f,BV];refine each 0 [2,3,53] 8 (fun _ _ _=>True) ?_ ?_ ag ag hh.2 (fun _ _ _ _ _ _ h=>h) trivial (fun m _ _ h=>(m5 m h).elim) ?_
 ·simp only[go_sem]
 ·simp only[go_sem];rfl
 intro j b d c _;simp only[go_sem,a]at d;have g:b.get 6=.cells [ah 0,.ak,.ak] 0:=by rw[c.1 6 aa,hh.1 6 aa];simp only[go_sem]
 have bh:b.get 7=.cells [ah 0,.ak,.ak] 0:=by rw[c.1 7 aa,hh.1 7 aa];simp only[go_sem]
 simp only[go_sem,d,g,bh];exact fG rfl (.agg (.cons (.int _ _) (.cons .ak (.cons .ak .nil))))
def wA(n:Nat):p7→Prop
 |.cert _ c=>∃k e,e≤16∧c.az n k e
 |_=>True
theorem UO(n:Nat)(j:n=1∨n=2)(x:kX)(m:∀f,x=.leaf f→wA n f):aS 151 [.agg (cA n x)] (.agg (cA n x)):=by
 have d:=nj n x;refine gh (.cons (.agg d) .nil) (cN Tryz.f151 (h:=?_));rcases x with⟨v,a,l,r⟩|(_|k|⟨b,c⟩)
 ·simp only[go_sem,cA];refine use Eb ?_;simp only[go_sem];exact fG rfl (.agg d)
 ·simp only[go_sem,cA];refine use Eb ?_;simp only[go_sem];exact fG rfl (.agg d)
 ·simp only[go_sem,cA];refine use Eb ?_;simp only[go_sem];exact fG rfl (.agg d)
 ·obtain⟨k,e,i,g⟩:=m _ rfl;have h:=UN n j k e i c g;simp only[gS]at h;cases b<;>(simp only[go_sem,cA,cond_true,cond_false,nY];refine use h ?_;simp only[go_sem,nY];exact fG rfl (.agg d))
def iC:List V:=[ah 0,ah 0,.str [],ah 0,ah 0,ah 0,.ak,.ak,ah 0]
def n9(z:List V)(f:Nat→List V)(k m:Nat):List (List V):=(tB 0 k).map fun j=>if j<m then f j else z
variable{b:List V}{a:Nat}
theorem Sc{f:Nat→List V}:(n9 b f a h).length=a:=by simp[n9]
theorem arG{f:Nat→List V}(e:b.length=u)(c:∀j,(f j).length=u):∀r∈n9 b f a h,r.length=u:=fun r d=>by
 obtain⟨j,_,rfl⟩:=kT.1 d;show(if j<h then f j else b).length=u;split;exact c j;exact e
theorem Ib(z:List V)(f:Nat→List V)(k m i:Nat):(n9 z f k m)[i]? =if i<k then some (if i<m then f i else z)else none:=by
 rw[n9,iW];by_cases h:i<k
 ·rw[ao h,List.getElem?_range' h];simp
 ·rw[aj h,m0 (by simp;omega)];rfl
theorem arH{f:Nat→List V}(c:h<a):(n9 b f a h).set h (f h)=n9 b f a (h+1):=by
 refine uQ fun i=>?_
 rw[r7,Sc,Ib,Ib];by_cases d:h=i
 ·subst d;rw[ao rfl,ao c,ao c,ao aa]
 ·rw[aj d,show(if i<h then f i else b)=if i<h+1 then f i else b by
   by_cases e:i<h
   ·rw[ao e,ao aa]
   ·rw[aj e,aj aa]]
theorem Sd(z:List V):∀(k j:Nat),rep z k=jD ((tB j k).map fun _=>z)
 |0,_=>rfl
 |k+1,j=>by rw[Cm,Sd z k (j+1),iH];rfl
theorem arI(z:List V)(f:Nat→List V)(k:Nat):rep z k=jD (n9 z f k 0):=by rw[Sd z k 0];rfl
variable{f:Type}
theorem Rc(g:f→List V):∀m:List f,jD (m.map g)=br g m
 |[]=>rfl
 |a::m=>by show g a++jD (m.map g)=g a++br g m;rw[Rc g m]
theorem arF{f:Nat→List V}:n9 b f a a=(p_ a).map f:=by
 refine uQ fun i=>?_
 rw[Ib,iW];by_cases h:i<a
 ·rw[ao h,ao h,tw h];rfl
 ·rw[aj h,m0 (by simp;omega)];rfl
theorem anu(t:aN)(n:Nat):jD (n9 iC (fun j=>cA n (t.nd j)) (2*t.s+1) (2*t.s+1))=br (cA n) t.de:=by
 rw[arF,aN.de,←Rc,List.map_map];rfl
theorem SP{p:fc}(a:p.az){l:List dR}{f:p7}(h:q2 p l f):wA p.n f:=by
 cases f with
 |jO=>trivial
 |wR k=>trivial
 |cert b c=>exact⟨_,_,by have:=a.le;omega,h⟩
theorem R1{p:fc}(b:p.az){t:aN}(c:t.az p)(d:a<2*t.s+1)(f:p7)(h:t.nd a=.leaf f):wA p.n f:=by
 unfold aN.nd at h;split at h
 ·cases h
 ·cases h;exact SP b (c.gp a aa aa)
theorem UR(p:fc)(D:p.az)(t:aN)(q:t.az p)(b:Rat)(H:af)(Q:GT H)(P:5≤H.next):c5 94 [.agg (fP t p.n b)] H fun v d=>∃c,H.next≤c∧c<d.next∧v=.agg [bu bR (t.cv 0),.str (bf b),.slice c 0 (2*t.s+1) (.known (2*t.s+1))]∧d.get c=.cells (br (cA p.n) t.de) 0∧∀y,y<H.next→d.get y=H.get y:=by
 have L:=D.n;have S:=q.s;have U:(t.cv 0).length=p.n:=by rw[aN.cv,iu];exact q.len 0 aa
 have w:=KA (t.cv 0) aa;refine cN Tryz.f94 (h:=?_);have u:l7 112 iC [ah (t.de.length:Int),ah (t.de.length:Int)]=some (.new (rep iC (2*t.s+1)) (.slice (2*t.s+1) (2*t.s+1))):=by rw[iI ⟨aa,by rw[gC];omega,by rw[gC];omega⟩,bH,gC]
 rw[arI iC (fun j=>cA p.n (t.nd j))]at u;simp only[hY]at w;rw[show iC=[ah 0,ah 0,.str [],ah 0,ah 0,ah 0,.ak,.ak,ah 0]from rfl]at u;simp(disch:=omega)only[go_sem,fP,u,dU];refine ck w b_ ?_;simp(disch:=omega)only[go_sem,nY,dU];refine each (2*t.s+1) [1,2,3,17,18] (H.next+2) (fun m F d=>d.get (H.next+2)=.cells (jD (n9 iC (fun j=>cA p.n (t.nd j)) (2*t.s+1) m)) 0∧d.get (H.next+3)=.cells [bu bR (t.cv 0),.str (bf b),.slice (H.next+2) 0 (2*t.s+1) (.known (2*t.s+1))] 0∧H.next+4≤d.next) ?_ ?_ aa ag ?_ (fun _ _ _ _ _ _ h=>h) ⟨?_,?_,?_⟩ ?_ ?_
 iterate 2 simp only[go_sem,gC]
 ·simp only[go_sem];omega
 ·simp(disch:=omega)only[go_sem,dU];rfl
 ·simp(disch:=omega)only[go_sem,dU]
 ·simp only[go_sem];omega
 ·rintro m I d f e hh hi ⟨bh,eY,K⟩;simp only[go_sem]at e;have M:t.de[m]? =some (t.nd m):=by rw[aN.de,iW,tw f];rfl
  have o:=gi (n5 p.n) M;have R:m<t.de.length:=by rw[gC];exact f
  have i:=UO p.n L (t.nd m) (R1 D q f);have g:=Cx (k:=9) (n9 iC (fun j=>cA p.n (t.nd j)) (2*t.s+1) m) m (cA p.n (t.nd m)) (arG rfl fun j=>n5 _ _) (n5 _ _) (by rw[Sc];exact f);rw[arH (f:=fun j=>cA p.n (t.nd j)) f]at g;have E:=bG (aa:H.next+2<d.next)
  have G:=bG (aa:H.next+3<d.next)
  have O:(0:Int)≤(m:Int)∧(m:Int)<((2*t.s+1:Nat):Int):=aa;obtain⟨x,N⟩:∃x,x=t.nd m:=⟨_,rfl⟩;obtain⟨B,C⟩:∃B,B=jD (n9 iC (fun j=>cA p.n (t.nd j)) (2*t.s+1) (m+1)):=⟨_,rfl⟩;obtain⟨A,z⟩:∃A,A=jD (n9 iC (fun j=>cA p.n (t.nd j)) (2*t.s+1) m):=⟨_,rfl⟩;rw[←N]at o i g;rw[←C,←z]at g;rw[←z]at bh;rw[←C];rcases x with⟨v,a,l,r⟩|(_|k|⟨b,c⟩)<;>
  ·simp only[cA]at o i g;simp(disch:=omega)only[go_sem,e,hi,eU,o,E,G,eY];refine use i ?_;simp(disch:=omega)only[go_sem,hi,E,G,eY,bW O,bh,g,dU];exact⟨e,en.set (en.set (en.push hh _) aa _) (aF _) _,aa⟩
 ·rintro I d e hh ⟨bh,eY,K⟩;simp only[go_sem]at e;rw[anu]at bh;have J:d.get (H.next+1)=.cells [.ak,.str [],.ak] 0:=by rw[hh.1 _ aa];simp(disch:=omega)only[go_sem,dU]
  simp(disch:=omega)only[go_sem,e,J,eY,nY,dU];refine⟨H.next+2,aa,aa,rfl,by rw[aj aa];exact bh,fun y T=>?_⟩
  rw[aj aa,hh.1 y aa];simp(disch:=omega)only[go_sem,dU]
variable{m:Fr}{i:Option Nat}{e:Fr→af→Prop}{r:V}
theorem agC{bytes n:Nat}{xs cs:List V}(j:c.get h=.cells xs 0)(p:xs.length=u*a)(g:kn r=some n)(k:dX c a n r=some cs)(t:0<n)(l:u+n≤1073741824∧bytes≤1024)
 (o:∀b,cE b c.next (c.next+1) (xs++cs)→(∀y,y<c.next→b.get y=c.get y)→b.next=c.next+2→e (put m i (.slice c.next 0 (u+n) (.grown a))) b):gk i e m (fA a bytes [.slice h 0 u (.known u),r] c):=by
 have d:fA a bytes [.slice h 0 u (.known u),r] c=kJ c a (u+n) (xs++cs):=by
  show an (kn r) (fun n=>an (dX c a n r) fun q=>jJ a bytes (.slice h 0 u (.known u)) n q c)=_;rw[g];show an (dX c a n r) _=_;rw[k];show Bool.casesOn (motive:=fun _=>Option (V×af)) (fh n) (aQ (i_ (u+n) bytes) (Bool.casesOn (motive:=fun _=>Option (V×af)) (bL (u+n) u) (an (c.cP h 0 (u*a)) fun s=>kJ c a (u+n) (cX s cs)) (an (c.e3 h (0+u*a) cs) fun c=>some (V.slice h 0 (u+n) (.known u),c)))) _=_;rw[qy aa,pe ⟨aa,cH (jX (aa:u+n≤1073741824) l.2) ag⟩,show bL (u+n) u=false from lq.2 fun f=>by have:=kV f;omega,fI j];simp only[dA,xK,zC,iU p,iH]
 rw[d];refine o _ ⟨?_,⟨c.next,?_,aF _⟩,sj _⟩ (fun y v=>?_) rfl
 ·rw[af.aY,aj (by show¬(c.next+1=c.next);omega),af.aY,ao rfl]
 ·rw[af.aY,ao (show(c.push (cR.cells (xs++cs) (c.next+1))).next=c.next+1 from rfl)]
 ·rw[af.aY,aj (by show¬(c.next+1=y);omega),af.aY,aj aa]
def ou(q:Rat)(s:b9):Bool:=(!s.hl||decide (0<gj (q-s.lo)))&&(!s.hh||decide (gj (q-s.hi)<0))
theorem Tv(s:List UInt8)(c:s.length≤30)(j:(numOf s).isSome=true)(x:b9)(i:iE 81 x):ew 93 [.str s,.agg (bR (eC x))] (.bool (ou (rv s) x)):=by
 obtain⟨lo,hi,l,h⟩:=x;obtain⟨d,f⟩:=i;have v:=wj s aa;have b:=yT s (bf lo) aa (rV d ag) (a:=121) (b:=81) (zX (L:=30) c) (by rw[nC];exact d) ag;have a:=yT s (bf hi) aa (rV f ag) (a:=121) (b:=81) (zX (L:=30) c) (by rw[nC];exact f) ag;rw[j]at v;rw[nC]at b a;refine eK (.cons (.str _) (.cons (.agg (o9 _)) .nil)) (cN Tryz.f93 (h:=?_));simp only[go_sem,bR,eC];refine ck v b_ ?_;have g:ou (rv s) ⟨lo,hi,l,h⟩=((!l||decide (0<gj (rv s-lo)))&&(!h||decide (gj (rv s-hi)<0))):=rfl;rw[g];cases l
 ·cases h
  ·simp only[go_sem,if_false,iM];exact cg b_ rfl (.bool _)
  ·simp only[go_sem,if_false,iM,pV];refine ck a b_ ?_;simp only[go_sem];exact cg b_ rfl (.bool _)
 ·simp only[go_sem,if_false,iM,pV];refine ck b b_ ?_;by_cases e:0<gj (rv s-lo)
  ·cases h
   ·simp only[go_sem,if_false,iM,e];exact cg b_ rfl (.bool _)
   ·simp only[go_sem,if_false,iM,pV,e];refine ck a b_ ?_;simp only[go_sem];exact cg b_ rfl (.bool _)
  ·simp only[go_sem,e];exact cg b_ rfl (.bool _)
def hG(n:Nat):kX⊕(Int×List UInt8×Nat)→List V
 |.inl x=>cA n x
 |.inr (v,s,k)=>[.int .i64 1,.int .i64 v,.str s,.int .i64 (k:Int),.int .i64 ((k+1:Nat):Int),.int .i64 0,.ak,.ak,.int .i64 0]
theorem oD(n:Nat)(x:kX⊕(Int×List UInt8×Nat)):(hG n x).length=9:=by
 rcases x with x|⟨v,s,k⟩
 ·exact n5 n x
 ·rfl
theorem Bn(n:Nat)(x:kX⊕(Int×List UInt8×Nat)):bX (hG n x):=by
 rcases x with x|⟨v,s,k⟩
 ·exact nj n x
 ·unfold hG;repeat' constructor
theorem Hq{c:Type}{b:c→List V}{g:f→c}:∀l:List f,br b (l.map g)=br (fun a=>b (g a)) l
 |[]=>rfl
 |a::l=>by show b (g a)++br b (l.map g)=b (g a)++br _ l;rw[Hq l]
def vI:kX→Int
 |.split .. =>1
 |.leaf .jO=>5
 |.leaf (.wR _)=>4
 |.leaf (.cert b _)=>bif b then 2 else 3
theorem PN(n:Nat)(x:kX):∃l,cA n x=ah (vI x)::l:=by
 rcases x with _|(_|_|_)<;>exact⟨_,rfl⟩
def o6(t:aN)(a:Nat)(v:Int)(b:List UInt8):List (kX⊕(Int×List UInt8×Nat)):=(t.de.map .inl).set a (.inr (v,b,2*t.s+1))++[.inl (.leaf .jO),.inl (.leaf .jO)]
def A9(t:aN)(n:Nat)(b:Rat)(a:Nat)(v:Int)(s:List UInt8):V:=.agg [bu bR (t.cv 0),.str (bf b),bu (hG n) (o6 t a v s)]
def rJ(e:Int):V:=.aA [.agg [.ak,.str [],.ak],ah e]
def o7(p:fc)(t:aN)(b:Rat)(a v:Int)(c:List UInt8):V:=
 if(numOf c).isSome=false then rJ 1
 else if¬(0≤a∧a<(2*t.s+1:Nat)∧0≤v∧v<p.n)then rJ 3
 else if vI (t.nd a.toNat)≠5 then rJ 11
 else if ou (rv c) ((t.bs a.toNat).getD v.toNat jb)=false then rJ 13
 else .aA [A9 t p.n b a.toNat v c,ah 0]
theorem Ni(t:aN)(a:Nat)(v:Int)(b:List UInt8):(o6 t a v b).length=2*t.s+3:=by
 unfold o6;rw[aV,gE,iu,gC];rfl
theorem Pu{a:List V}(h:b.length=a.length):cz b a 0=some b:=by
 rw[k8,ao aa,eJ,h,List.drop_length];show some ([]++b++[])=_;rw[fN];rfl
theorem agf(p:fc)(H:p.az)(t:aN)(o:t.az p)(b:Rat)(hb:bg 81 b)(d v:Int)(a:List UInt8)(hs:a.length≤30):ew 43 [j0 p,.agg (fP t p.n b),ah d,ah v,.str a] (o7 p t b d v a):=by
 have hn:=H.n;have bd:=o.s;have aw:∀e,bA (rJ e):=fun e=>.aA (.cons (.agg (.cons .ak (.cons (.str _) (.cons .ak .nil)))) (.cons (.int _ _) .nil))
 have G:c3 (e9 p.n)=some (.val (ah (p.n:Int))):=rfl;have hv:=wj a aa;have g:bA (o7 p t b d v a):=by
  unfold o7
  repeat' split
  all_goals first|exact aw _|exact .aA (.cons (.agg (.cons (ie o9 _) (.cons (.str _) (.cons (ie (Bn _) _) .nil)))) (.cons (.int _ _) .nil))
 refine eK (.cons (tQ p hn) (.cons (.agg (NV t _ b)) (.cons (.int _ _) (.cons (.int _ _) (.cons (.str _) .nil))))) (cN Tryz.f43 (h:=?_));simp only[go_sem,j0,fP];refine ck (agY p H t o b hb) b_ ?_;simp only[go_sem];refine ck hv b_ ?_;cases A:(numOf a).isSome
 ·simp only[go_sem];exact cg b_ (by unfold o7;rw[ao A];rfl) g
 have d3:¬(0≤d∧d<(2*t.s+1:Nat)∧0≤v∧v<p.n)→o7 p t b d v a=rJ 3:=fun h=>by unfold o7;rw[aj (by rw[A];decide),ao h]
 by_cases j:d<0
 ·simp only[go_sem,j];exact cg b_ (d3 aa).symm g
 by_cases f:¬d<(t.de.length:Int)
 ·rw[gC]at f;simp only[go_sem,j,gC,f];exact cg b_ (d3 aa).symm g
 have f:=Decidable.not_not.1 f;by_cases u:v<0
 ·simp only[go_sem,j,f,u];exact cg b_ (d3 aa).symm g
 by_cases k:¬v<p.n
 ·simp only[go_sem,j,f,u,k,G];exact cg b_ (d3 aa).symm g
 have k:=Decidable.not_not.1 k;have ad:=f;rw[gC]at ad;obtain⟨m,rfl⟩:∃m:Nat,d=m:=⟨d.toNat,aa⟩;obtain⟨w,rfl⟩:∃w:Nat,v=w:=⟨v.toNat,aa⟩;have F:m<2*t.s+1:=aa;have R:t.de[m]? =some (t.nd m):=by rw[aN.de,iW,tw F];rfl
 have S:=gi (n5 p.n) R;obtain⟨cs,am⟩:=PN p.n (t.nd m);rw[am]at S;have Q:=vF S;have bb:m<t.de.length:=aa;have z:∀r,(¬vI (t.nd m)=5→r=rJ 11)→(vI (t.nd m)=5→ou (rv a) ((t.bs m).getD w jb)=false→r=rJ 13)→(vI (t.nd m)=5→ou (rv a) ((t.bs m).getD w jb)=true→r=.aA [A9 t p.n b m w a,ah 0])→r=o7 p t b m w a:=fun r r1 K a7=>by
  unfold o7;rw[aj (by rw[A];decide),aj aa];split
  ·rename_i h;exact r1 h
  ·rename_i h;split
   ·rename_i D;exact K (by simpa using h) D
   ·rename_i D;exact a7 (by simpa using h) (by simpa using D)
 by_cases i:¬vI (t.nd m)=5
 ·simp(disch:=omega)only[go_sem,j,f,u,k,G,eU,Q,i];exact cg b_ (z _ (fun _=>rfl) (fun h=>absurd h i) (fun h=>absurd h i)) g
 have i:=Decidable.not_not.1 i;obtain⟨x,T⟩:∃x,x=(t.bs m).getD w jb:=⟨_,rfl⟩;have bc:(t.bs m).length=p.n:=o.len m aa;have U:(t.bs m)[w]? =some x:=by rw[T,cy,cx aa];rfl
 have a3:=o.q m aa x (eN U);have K:=gi (f:=bR) mT (show(t.cv m)[w]? =some (eC x) by rw[aN.cv,iW,U];rfl);have al:t.rq[m]? =some (t.cv m):=by rw[aN.rq,iW,List.getElem?_range' F];simp
 have O:=vF (gi (f:=u_) (k:=1) (fun _=>rfl) al);rw[ef]at O;have bi:m<t.rq.length:=by rw[aN.rq,iu,List.length_range'];exact F
 have bj:w<(t.cv m).length:=by rw[aN.cv,iu];omega
 rw[←T]at z;simp(disch:=omega)only[go_sem,j,f,u,k,G,eU,Q,i,O,K];refine ck (Tv a hs A x a3) b_ ?_;cases P:ou (rv a) x
 ·simp only[go_sem];exact cg b_ (z _ (fun h=>absurd i h) (fun _ _=>rfl) (fun _ h=>by rw[P]at h;cases h)) g
 have Y:((254:Int)<(t.de.length:Int))=False:=eq_false (by rw[gC];omega);simp only[go_sem,Y];refine(UR p H t o b _ b_ (by simp only[go_sem];omega)).mono ?_;rintro _ M ⟨c,W,X,rfl,gc,V⟩;simp only[go_sem]at W;have hz:(0:Int)≤(m:Int)∧(m:Int)<((2*t.s+1:Nat):Int):=aa;have l:=vU (oD p.n) (hG p.n (.inr ((w:Int),a,2*t.s+1))) 0 (t.de.map .inl) m (.inl (t.nd m)) (.inr ((w:Int),a,2*t.s+1)) (by rw[iW,R];rfl) (Pu (by rw[oD,oD]));rw[Hq]at l;obtain⟨L,E⟩:∃L,L=(t.de.map Sum.inl).set m (.inr ((w:Int),a,2*t.s+1)):=⟨_,rfl⟩;rw[←E]at l;change cz _ (br (cA p.n) t.de) (m*9)=_ at l;have Z:hG p.n (.inr ((w:Int),a,2*t.s+1))=[ah 1,ah (w:Int),.str a,ah ((2*t.s+1:Nat):Int),ah ((2*t.s+1+1:Nat):Int),ah 0,.ak,.ak,ah 0]:=rfl;rw[Z]at l;have w1:aB .i64 (((2*t.s+1:Nat):Int)+1)=((2*t.s+1+1:Nat):Int):=by rw[aI _ aa];rfl
 have I:=bG X;simp(disch:=omega)only[go_sem,nY,dU,gC,w1,bW hz,gc,l,I];refine agC (xs:=br (hG p.n) L) (cs:=[ah 5,ah 0,.str [],ah 0,ah 0,ah 0,.ak,.ak,ah 0,ah 5,ah 0,.str [],ah 0,ah 0,ah 0,.ak,.ak,ah 0]) (n:=2) ?_ ?_ rfl ?_ ag ⟨aa,ag⟩ fun C J B a5=>?_
 ·simp(disch:=omega)only[go_sem,dU,I]
 ·rw[fO _ (oD _),E,gE,iu,gC]
 ·show af.cP _ (M.next+1) 0 (2*9)=_
  rw[fI (cs:=[ah 5,ah 0,.str [],ah 0,ah 0,ah 0,.ak,.ak,ah 0,ah 5,ah 0,.str [],ah 0,ah 0,ah 0,.ak,.ak,ah 0]) (by simp(disch:=omega)only[go_sem,dU])];rfl
 simp only[go_sem]at J B a5;have ab:C.get M.next=.cells [bu bR (t.cv 0),.str (bf b),.slice c 0 (2*t.s+1) (.known (2*t.s+1))] 0:=by
  rw[B _ aa];simp(disch:=omega)only[go_sem,dU,I]
 have bh:C.get 7=.cells [.ak,.str [],.ak] 0:=by
  rw[B _ aa];simp(disch:=omega)only[go_sem,dU];rw[V 7 (by simp only[go_sem])];simp(disch:=omega)only[go_sem,dU]
 have g4:GT C:=ga.keep fun y hy=>by
  rw[B _ aa];simp(disch:=omega)only[go_sem,dU];rw[V y (by simp only[go_sem];omega)];simp(disch:=omega)only[go_sem,dU,rM]
 simp(disch:=omega)only[go_sem,ab,bh,nY,dU];have ap:o6 t m w a=L++[.inl (.leaf .jO),.inl (.leaf .jO)]:=by rw[E];rfl
 have hq:br (hG p.n) (o6 t m w a)=br (hG p.n) L++[ah 5,ah 0,.str [],ah 0,ah 0,ah 0,.ak,.ak,ah 0,ah 5,ah 0,.str [],ah 0,ah 0,ah 0,.ak,.ak,ah 0]:=by rw[ap,pK];rfl
 rw[←hq]at J;have ba:=bu bR (t.cv 0);have N:=z (.aA [A9 t p.n b m w a,ah 0]) (fun h=>absurd i h) (fun _ h=>by rw[P]at h;cases h) (fun _ _=>rfl);rw[←N]at g;refine⟨b_,_,.aA (.cons (.agg (.cons (.same _) (.cons (.same _) (.cons (BY (oD p.n) ag (Ni t m w a) (cE.keep J ?_ ?_) b_ ?_) .nil)))) (.cons (.same _) .nil)),g,N⟩
 ·simp(disch:=omega)only[go_sem,dU]
 ·simp(disch:=omega)only[go_sem,dU]
 ·simp only[go_sem];omega
theorem Rj(n:Nat)(e:n=1∨n=2)(p:List ax)(h:iX n p):aS 222 [jR n p,jR n p] bE:=by
 have a:=Ri n p (fun d c=>by have:=(h.t d c).len;omega) (by have:=h.len;omega);have b:=Ri n [] (fun _ h=>by cases h) ag;simp only[gv,bS]at a b;refine gh (.cons (.agg (qo n p)) (.cons (.agg (qo n p)) .nil)) (cN Tryz.f222 (h:=?_));simp only[go_sem,jR,eR,bS,mL];refine use a ?_;simp only[go_sem,mL];refine use b ?_;simp only[go_sem];exact fG rfl (.bool _)
theorem apj(l:List b9)(hl:0<l.length∧l.length≤1000)(i:Nat)(hi:i<l.length)(q:Rat)(j:bg 1000 q)(o:∀s∈l,iE 1000 s)(a:ou q (l.getD i jb)=false):aS 45 [c8 l,ah (i:Int),bz q] (.aA [.ak,.ak,aC]):=by
 have e:bA (.aA [.ak,.ak,aC]):=.aA (.cons .ak (.cons .ak (.cons (.bool _) .nil)));refine gh (.cons (lE l) (.cons (.int _ _) (.cons (fT q) .nil))) (Ee kZ (h:=?_));obtain⟨x,p,k⟩:=iR hi;have r:l.getD i jb=x:=by rw[cy,k];rfl
 rw[r]at a;obtain⟨t,u⟩:=o _ p;have d:=gi mb k;have n:=zQ q x.lo j t ag;have g:=zQ q x.hi j u ag;obtain⟨lo,h,m,f⟩:=x;simp only[eB,bk,eL,eE]at d;simp only[go_sem,aU 45 kZ,bz,bk];unfold ou at a;cases m
 ·cases f
  ·simp at a
  ·have c:gj (q-h)<0↔False:=by simpa using a
   simp(disch:=omega)only[go_sem,ai 45 kZ 5,ai 45 kZ 4,c8,eU,d];refine use g ?_;simp only[go_sem,c];exact fG rfl e
 ·simp(disch:=omega)only[go_sem,ai 45 kZ 5,ai 45 kZ 4,c8,eU,d];refine use n ?_;by_cases b:0<gj (q-lo)
  ·cases f
   ·simp[b]at a
   ·have c:gj (q-h)<0↔False:=by simpa [b]using a
    simp only[go_sem,b];refine use g ?_;simp only[go_sem,c];exact fG rfl e
  ·simp only[go_sem,b];exact fG rfl e
theorem BT(a:List UInt8):e8 kP a a=true:=by rw[Gf];exact beq_self_eq_true a
theorem anw(a b:List UInt8)(d:Int):wP [.string,.string,.int .i64] [.agg [.str a,.str b,ah d],.agg [.str a,.str b,ah d]]=some (.val aC):=by
 show an (an (some (e8 kP a a)) fun r=>an (an (some (e8 kP b b)) fun r=>an (an (some (lX d d)) fun r=>an (some true) fun s=>some (and r s)) fun s=>some (and r s)) fun s=>some (and r s)) (fun r=>h_ (!r))=_;rw[BT,BT,qv,bm rfl];rfl
theorem anz(a b:List UInt8):wP [.string,.string] [.agg [.str a,.str b],.agg [.str a,.str b]]=some (.val aC):=by
 show an (an (some (e8 kP a a)) fun r=>an (an (some (e8 kP b b)) fun r=>an (some true) fun s=>some (and r s)) fun s=>some (and r s)) (fun r=>h_ (!r))=_;rw[BT,BT];rfl
theorem apZ(n:Nat)(j:n=1∨n=2)(l:List mu)(hl:l.length≤1000)(k:∀s∈l,s.az n):aS 221 [bu (iA n) l,bu (iA n) l] bE:=by
 refine gh (.cons (ie (xk n) l) (.cons (ie (xk n) l) .nil)) (cN Tryz.f221 (h:=?_));simp only[go_sem];refine each l.length [0,1,12] 5 (fun _ _ _=>True) ?_ ?_ aa ag (aF 5) (fun _ _ _ _ _ _ h=>h) trivial ?_ ?_
 iterate 2 simp only[go_sem]
 ·intro m e f i b hh hi _;obtain⟨a,g,c⟩:=iR i;have o:cj (ej (br (iA n) l) (m*7)) 3=some [.str (bf (a.w:Rat)),.str [48],ah 1]:=Q9 (pP n) c 0 3 ag;have p:cj (ej (br (iA n) l) (m*7+3)) 4=some (eR n a.r):=Q9 (pP n) c 3 4 ag;have q:=hh.2;have d:=Rj n j a.r (k a g).r;simp only[jR,eR,bS,eL,eE]at d;simp only[go_sem]at b;simp(disch:=omega)only[go_sem,b,hi,eU,o,p,eR,bS,anw];refine use d ?_;simp only[go_sem,b,hi];exact kb
 ·intro e f b hh _;simp only[go_sem];exact fG rfl (.bool _)
theorem apX(n:Nat)(u:n=1∨n=2)(k e:Nat)(E:e≤16)(c:nH)(i:c.az n k e):aS 152 [.agg (gS n c),.agg (gS n c)] bE:=by
 have G:=i.zi;have F:=i.lm;refine gh (.cons (.agg (tR n c)) (.cons (.agg (tR n c)) .nil)) (cN Tryz.f152 (h:=?_));simp only[go_sem,gS];refine each c.ps.length [2,3,32] 7 (fun _ _ _=>True) ?_ ?_ aa ag (kV rfl) (fun _ _ _ _ _ _ h=>h) trivial ?_ ?_
 iterate 2 simp only[go_sem]
 ·intro m y d r b hh hi _;obtain⟨a,q,p⟩:=iR r;have o:=gi (xO n) p;have w:=vF o;have x:=Gj (j:=1) o rfl;have s:=i.ps a q;have H:=s.ls;have B:=hh.2;have f:d.get 5=.cells [ah 1,bu (kq n) c.ps,bu (eR n) c.ms] 0:=by rw[hh.1 5 aa];simp only[go_sem]
  have g:d.get 6=.cells [ah 1,bu (kq n) c.ps,bu (eR n) c.ms] 0:=by rw[hh.1 6 aa];simp only[go_sem]
  simp only[go_sem]at b;simp(disch:=omega)only[go_sem,b,hi,f,g,eU,w,x];refine use (Rh a.is s.li) ?_;simp(disch:=omega)only[go_sem,b,hi,f,g,eU,w,x];refine use (apZ n u a.gr aa s.gr) ?_;simp only[go_sem,b,hi];exact kb
 ·intro y d b hh _;have f:d.get 5=.cells [ah 1,bu (kq n) c.ps,bu (eR n) c.ms] 0:=by rw[hh.1 5 aa];simp only[go_sem]
  have g:d.get 6=.cells [ah 1,bu (kq n) c.ps,bu (eR n) c.ms] 0:=by rw[hh.1 6 aa];simp only[go_sem]
  simp only[go_sem]at b;simp only[go_sem,b,f];refine each c.ms.length [2,3,69] 7 (fun _ _ _=>True) ?_ ?_ aa ag hh.2 (fun _ _ _ _ _ _ h=>h) trivial ?_ ?_
  iterate 2 simp only[go_sem]
  ·intro m z A r l j t _;obtain⟨a,q,p⟩:=iR r;have o:=gi (pR n) p;have B:=j.2;have C:=(j.1 5 aa).trans f;have D:=(j.1 6 aa).trans g;have v:=Rj n u a (i.ms a q);simp only[jR,eR,bS,eL,eE]at v;simp only[go_sem,b]at l;simp(disch:=omega)only[go_sem,l,t,C,D,eU,o,eR,bS];refine use v ?_;simp only[go_sem,b,l,t];exact kb
  ·intro z A l j _;simp only[go_sem];exact fG rfl (.bool _)
theorem CB:aS 152 [.agg [ah 0,.ak,.ak],.agg [ah 0,.ak,.ak]] bE:=by
 have a:bA (.agg [ah 0,.ak,.ak]):=.agg (.cons (.int _ _) (.cons .ak (.cons .ak .nil)));refine gh (.cons a (.cons a .nil)) (cN Tryz.f152 (h:=?_));simp only[go_sem,BV];refine each 0 [2,3,32] 7 (fun _ _ _=>True) ?_ ?_ ag ag (kV rfl) (fun _ _ _ _ _ _ h=>h) trivial (fun m _ _ h=>(m5 m h).elim) ?_
 ·simp only[go_sem]
 ·simp only[go_sem];rfl
 intro e c b hh _;simp only[go_sem]at b;have d:c.get 5=.cells [ah 0,.ak,.ak] 0:=by rw[hh.1 5 aa];simp only[go_sem]
 simp only[go_sem,b,d,BV];refine each 0 [2,3,69] 7 (fun _ _ _=>True) ?_ ?_ ag ag hh.2 (fun _ _ _ _ _ _ h=>h) trivial (fun m _ _ h=>(m5 m h).elim) ?_
 ·simp only[go_sem]
 ·simp only[go_sem];rfl
 intro f g j i _;simp only[go_sem];exact fG rfl (.bool _)
theorem anr(n:Nat)(i:n=1∨n=2)(x:kX⊕(Int×List UInt8×Nat))(j:∀f,x=.inl (.leaf f)→wA n f):∃k v a l r d P M c,hG n x=[ah k,ah v,.str a,ah l,ah r,ah d,P,M,ah c]∧P.one=true∧M.one=true∧aS 152 [.agg [ah d,P,M],.agg [ah d,P,M]] bE:=by
 rcases x with(_|_|_|⟨b,c⟩)|⟨v,s,k⟩
 ·exact⟨_,_,_,_,_,_,_,_,_,rfl,rfl,rfl,CB⟩
 ·exact⟨_,_,_,_,_,_,_,_,_,rfl,rfl,rfl,CB⟩
 ·exact⟨_,_,_,_,_,_,_,_,_,rfl,rfl,rfl,CB⟩
 ·obtain⟨k,e,h,g⟩:=j _ rfl;exact⟨_,_,_,_,_,_,_,_,_,rfl,rfl,rfl,apX n i k e h c g⟩
 ·exact⟨_,_,_,_,_,_,_,_,_,rfl,rfl,rfl,CB⟩
theorem apY(n:Nat)(p:n=1∨n=2)(l:List (kX⊕(Int×List UInt8×Nat)))(hl:l.length≤1000)(h:∀x∈l,∀f,x=.inl (.leaf f)→wA n f):aS 97 [bu (hG n) l,bu (hG n) l] bE:=by
 refine gh (.cons (ie (Bn n) l) (.cons (ie (Bn n) l) .nil)) (cN Tryz.f97 (h:=?_));simp only[go_sem];refine each l.length [0,1,14] 5 (fun _ _ _=>True) ?_ ?_ aa ag (aF 5) (fun _ _ _ _ _ _ h=>h) trivial ?_ ?_
 iterate 2 simp only[go_sem]
 ·intro m j g o b hh hi _;obtain⟨x,s,r⟩:=iR o;have i:=gi (oD n) r;have y:=hh.2;obtain⟨k,v,a,gp,z,d,P,M,c,e,u,w,q⟩:=anr n p x (h x s);rw[e]at i;have t:=bG (aa:g.next<g.next+1)
  simp only[go_sem]at b;simp(disch:=omega)only[go_sem,b,hi,eU,i,t,u,w];refine use q ?_;simp only[go_sem,b,hi];exact kb
 ·intro j g b hh _;simp only[go_sem];exact fG rfl (.bool _)
theorem ap0(n:Nat)(q:n=1∨n=2)(c:List dR)(u:c.length≤1000)(b:List UInt8)(l:List (kX⊕(Int×List UInt8×Nat)))(hl:l.length≤1000)(h:∀x∈l,∀f,x=.inl (.leaf f)→wA n f):aS 46 [.agg [bu bR c,.str b,bu (hG n) l],.agg [bu bR c,.str b,bu (hG n) l]] bE:=by
 have j:bA (.agg [bu bR c,.str b,bu (hG n) l]):=.agg (.cons (ie o9 _) (.cons (.str _) (.cons (ie (Bn n) _) .nil)));refine gh (.cons j (.cons j .nil)) (cN Tryz.f46 (h:=?_));simp only[go_sem];refine each c.length [2,3,34] 7 (fun _ _ _=>True) ?_ ?_ aa ag (kV rfl) (fun _ _ _ _ _ _ h=>h) trivial ?_ ?_
 iterate 2 simp only[go_sem]
 ·intro m k d p e hh hi _;obtain⟨a,t,o⟩:=iR p;have r:=gi mT o;have s:=hh.2;have g:d.get 5=.cells [bu bR c,.str b,bu (hG n) l] 0:=by rw[hh.1 5 aa];simp only[go_sem]
  have i:d.get 6=.cells [bu bR c,.str b,bu (hG n) l] 0:=by rw[hh.1 6 aa];simp only[go_sem]
  simp only[go_sem]at e;simp(disch:=omega)only[go_sem,e,hi,g,i,eU,r,bR,anz];exact kb
 ·intro k d e hh _;have g:d.get 5=.cells [bu bR c,.str b,bu (hG n) l] 0:=by rw[hh.1 5 aa];simp only[go_sem]
  have i:d.get 6=.cells [bu bR c,.str b,bu (hG n) l] 0:=by rw[hh.1 6 aa];simp only[go_sem]
  simp only[go_sem]at e;simp only[go_sem,e,g,i];refine use (apY n q l hl h) ?_;simp only[go_sem];exact fG rfl (.bool _)
variable{w:Rat}
theorem TL{x:b9}(h:ou w x=true):oX w x:=by
 have key:∀a b:Rat,0<gj (a-b)→b<a:=fun a b h=>by
  rcases(by grind:b<a∨a=b∨a<b)with h'|rfl|h'
  ·exact h'
  ·rw[show a-a=0 by grind]at h;exact absurd h ag
  ·rw[zY h']at h;omega
 have c:∀a b:Rat,gj (a-b)<0→a<b:=fun a b h=>by
  rcases(by grind:b<a∨a=b∨a<b)with h'|rfl|h'
  ·rw[HD h']at h;omega
  ·rw[show a-a=0 by grind]at h;exact absurd h ag
  ·exact h'
 unfold ou at h;rw[cC]at h;exact⟨fun e=>key _ _ (by simpa [e]using h.1),fun e=>c _ _ (by simpa [e]using h.2)⟩
theorem JS(q:Rat)(x:b9):ou q (mP x)=ou q x:=by
 obtain⟨lo,hi,a,b⟩:=x;cases a<;>cases b<;>rfl
theorem af'(p:fc)(hp:p.az)(t:aN)(R:t.az p)(j:Rat)(m w:Nat)(Q:m<2*t.s+1)(d:List UInt8)(T A:Nat)(F:Fr)(H:af)(hg:GT H)(f1:rd 1 F=ah (m:Int))(f2:rd 2 F=ah (w:Int))(f3:rd 3 F=.str d)(P:rd 11 F=.ptr T 0)(bd:rd 12 F=.ptr A 0)(be:rd 13 F=ah 0)
 (iy:H.get T=.cells (fP t p.n j) 0) (bo:H.get A=.cells [bu bR (t.cv 0),.str (bf j),bu (hG p.n) (o6 t m w d)] 0) (hT:T<H.next) (hA:A<H.next) (h5:5≤H.next):
 bw (pc 6 3) (fu (n6 e5) fun v1 c=>GT c∧∃v,bO c (cU.kh c.next) v1 v∧bA v∧v=bE) F H:=by
 have hn:=hp.n;have d2:=R.s;have co:=Gb;have U:=bG hT;have dk:=bG hA;have V:=fO (cA p.n) (n5 p.n) t.de;simp only[go_sem,ai 6 e5 3,ai 6 e5 2,Ap e5,P,iy,fP,U,nY];have a0:=bG (aa:T<H.next+1)
 have dl:=bG (aa:A<H.next+1)
 have dp:=bG (aa:H.next<H.next+1)
 simp only[go_sem,P,iy,U,a0];refine Fv ?_ ?_ ?_ ⟨by rw[gC];omega,ag⟩ fun c M B dv=>?_
 ·simp only[go_sem]
 ·rw[gC];omega
 ·exact V
 simp only[go_sem]at M B dv;simp only[go_sem];obtain⟨r,j1,j2⟩:=M.bD;have Z:aH c 9 (.slice (H.next+1+1) 0 t.de.length (.grown 9)) (br (cA p.n) t.de) (H.next+1+1+1):=.cells M.row j1 j2 M.ne V aa aa
 have G:t.de.length=2*t.s+1:=gC t;have e0:br (cA p.n) t.de++br (hG p.n) [.inl (.leaf .jO),.inl (.leaf .jO)]=br (hG p.n) (t.de.map .inl++[.inl (.leaf .jO),.inl (.leaf .jO)]):=by rw[pK,Hq];rfl
 have ca:c.get H.next=.cells [bu bR (t.cv 0),.str (bf j),bu (cA p.n) t.de] 0:=by rw[B _ aa];simp only[go_sem,dp]
 have b':c.get T=.cells (fP t p.n j) 0:=by rw[B _ aa];simp only[go_sem,U,a0,iy]
 have b0:c.get A=.cells [bu bR (t.cv 0),.str (bf j),bu (hG p.n) (o6 t m w d)] 0:=by rw[B _ aa];simp only[go_sem,dk,dl,bo]
 have ch:GT c:=hg.keep fun y K=>by rw[B _ aa,aj aa,aj aa,aj aa]
 clear B;refine Ft (new:=br (hG p.n) [.inl (.leaf .jO),.inl (.leaf .jO)]) (n:=2) (Z.push _) rfl ?_ ag rfl ag rfl ⟨?_,ag⟩ (sj _) fun v' q z N d4 o dq=>?_
 ·show af.cP _ c.next 0 (2*9)=_
  rw[fI (cs:=br (hG p.n) [.inl (.leaf .jO),.inl (.leaf .jO)]) (by simp only[go_sem];rfl)];rfl
 ·rw[V,G];show(2*t.s+1)*9+18≤_;omega
 rw[e0]at N;simp only[go_sem]at o dq;have d1:z=H.next+1+1+1:=aa
 have o:∀y l,c.get y=.cells l 0→y<c.next→q.get y=.cells l 0:=fun y l h h'=>by
  have:=Z.ne h;rw[o y aa (.inr aa),aj aa,h]
 obtain⟨L,E⟩:∃L:List (kX⊕(Int×List UInt8×Nat)),L=t.de.map Sum.inl++[.inl (.leaf .jO),.inl (.leaf .jO)]:=⟨_,rfl⟩;rw[←E]at N;have b1:L.length=2*t.s+3:=by rw[E,aV,iu,G];rfl
 obtain⟨X,O⟩:∃X,X=br (hG p.n) L:=⟨_,rfl⟩;rw[←O]at N;cases N with
 |nil=>omega
 |cells hb ad hf I c0 hl d0=>
  rename_i b k f;have hk:k=2*t.s+3:=by
   rw[O,fO _ (oD p.n),b1]at c0;omega
  subst hk;have J:∀y l,q.get y=.cells l 0→y≠b∧y≠z:=fun y l h=>⟨fun e=>by rw[e,hb]at h;cases h;exact I rfl,fun e=>by rw[e,ad]at h;cases h⟩
  have a2:=o _ _ ca aa;have t2:=o _ _ b' aa;have W:=o _ _ b0 aa;obtain⟨a4,a5⟩:=J _ _ a2;obtain⟨tb,d7⟩:=J _ _ t2;obtain⟨ab,a9⟩:=J _ _ W;simp only[go_sem,a2];obtain⟨g,C⟩:∃g,g=q.set H.next (.cells [bu bR (t.cv 0),.str (bf j),.slice b 0 (2*t.s+3) (.grown 9)] 0):=⟨_,rfl⟩
  have a3:g.get H.next=.cells [bu bR (t.cv 0),.str (bf j),.slice b 0 (2*t.s+3) (.grown 9)] 0:=by rw[C,af.aK,ao rfl]
  have bB:∀y,y≠H.next→g.get y=q.get y:=fun y h=>by rw[C,af.aK,aj (Ne.symm h)]
  have t3:=(bB T aa).trans t2;have a6:=(bB A aa).trans W;have l3:cE g b z X:=⟨(bB _ (Ne.symm a4)).trans hb,⟨f,(bB _ (Ne.symm a5)).trans ad,hf⟩,I⟩;have dC:g.next=q.next:=by rw[C];rfl
  rw[←C];clear C;have cs:t.de[m]? =some (t.nd m):=by rw[aN.de,iW,tw Q];rfl
  have b2:L[m]? =some (.inl (t.nd m)):=by rw[E,p8 (by rw[iu,G];exact Q),iW,cs];rfl
  have al:=vU (oD p.n) (hG p.n (.inr ((w:Int),d,2*t.s+1))) 0 L m (.inl (t.nd m)) (.inr ((w:Int),d,2*t.s+1)) b2 (Pu (by rw[oD,oD]));have cd:L.set m (.inr ((w:Int),d,2*t.s+1))=o6 t m w d:=by rw[E,List.set_append_left _ _ (by rw[iu,G];exact Q)];rfl
  rw[cd,←O]at al;have am:=ya (v:=.agg (hG p.n (.inr ((w:Int),d,2*t.s+1)))) l3 al rfl rfl rfl (n:=9) rfl;have w1:aB .i64 (((2*t.s+1:Nat):Int)+1)=((2*t.s+1+1:Nat):Int):=by rw[aI _ aa];rfl
  have hz:(0:Int)≤(m:Int)∧(m:Int)<((2*t.s+3:Nat):Int):=aa;simp only[hG,cG]at am;simp(disch:=omega)only[go_sem,ai 6 e5 1,f1,f2,f3,P,a3,t3,fP,gC,w1,bW hz,am];obtain⟨u,D⟩:∃u,u=af.wr g b z (br (hG p.n) (o6 t m w d)):=⟨_,rfl⟩;have S:∀y,y≠b→y≠z→u.get y=g.get y:=fun y a b=>by rw[D,nq a b]
  have oK:=(S _ a4 a5).trans a3;have a7:=(S _ ab a9).trans a6;have l4:cE u b z (br (hG p.n) (o6 t m w d)):=by rw[D];exact l3.written _
  have d9:u.next=q.next:=by rw[←dC,D];rfl
  rw[←D];clear D;have Y:GT u:=fun y l e=>by
   have h1:=ch y l e;have K:y<5:=(yb.cells e).1;have h2:=o _ _ h1 aa;obtain⟨c1,c2⟩:=J _ _ h2;rw[S _ c1 c2,bB _ aa,h2]
  simp only[go_sem,ai 6 e5 0];refine ck co Y ?_;simp only[go_sem,bd,be,a7,oK];have l0:(t.cv 0).length=p.n:=by rw[aN.cv,iu];exact R.len 0 aa
  obtain⟨d5,i1,i2⟩:=l4.bD;have cb:=Ni t m w d;refine(vb (R:=fun v=>v=bE) (.cons (.same _) (.cons (.agg (.cons (.same _) (.cons (.same _) (.cons (mH (oD p.n) ag (.cells l4.row i1 i2 I (by rw[fO _ (oD _),cb]) aa aa) (cD.refl _) (fun y I K=>af.e7 _ _) (fO _ (oD _) _)) .nil)))) .nil)) ((ap0 p.n hn (t.cv 0) aa (bf j) (o6 t m w d) aa ?_ _).mono ?_)).mono ?_
  ·intro x hx f e;subst e;unfold o6 at hx;rcases hN.1 hx with h|h
   ·rcases List.mem_or_eq_of_mem_set h with h|h
    ·obtain⟨y,K,e⟩:=kT.1 h;cases e;obtain⟨i,hi,e⟩:=kT.1 K;exact R1 hp R (List.mem_range.1 hi) f e
    ·cases h
   ·simp at h;subst h;trivial
  ·rintro _ _ ⟨rfl,rfl⟩;exact⟨_,fun b=>.bool _,rfl⟩
  ·rintro _ _ ⟨rfl,rfl⟩;simp only[go_sem];exact cg Y rfl (.bool _)
theorem aga(k:Int)(g:k≠0)(A:Nat)(F:Fr)(H:af)(c:GT H)(d:rd 12 F=.ptr A 0)(e:rd 13 F=ah k)(b:rd 16 F=ah k)(f:H.get A=.cells [.ak,.str [],.ak] 0):
 bw (pc 6 4) (fu (n6 e5) fun h a=>GT a∧∃v,bO a (cU.kh a.next) h v∧bA v∧v=bE) F H:=by
 simp only[go_sem,ai 6 e5 4,Ap e5,b,g];refine ck Gb c ?_;simp only[go_sem,d,e,b,f,BV];exact cg c rfl (.bool _)
set_option maxHeartbeats 1000000 in
theorem agd(p:fc)(Y:p.az)(t:aN)(M:t.az p)(K:Rat)(a7:bg 81 K)(C v:Int)(f:List UInt8)(hs:f.length≤30)(Z ab:V)(u:List UInt8)(e:Int)(d:o7 p t K C v f=.aA [.agg [Z,.str u,ab],ah e])(N A B:Nat)(F:Fr)(H:af)(hg:GT H)(o:rd 1 F=ah C)(E:rd 2 F=ah v)(f3:rd 3 F=.str f)(W:rd 10 F=.ptr N 0)(D:rd 11 F=.ptr (N+1) 0)
 (r:rd 12 F=.ptr A 0) (z:rd 13 F=ah e) (a2:rd 14 F=.ptr B 0) (j:rd 15 F=.bool (lJ f).2) (R:H.get N=.cells (rM p) 0) (iy:H.get (N+1)=.cells (fP t p.n K) 0) (ac:H.get A=.cells [Z,.str u,ab] 0) (X:H.get B=.cells (bk (lJ f).1) 0) (b5:N+1<H.next) (hA:A<H.next) (h5:5≤H.next):
 bw (pc 6 7) (fu (n6 e5) fun O i=>GT i∧∃v,bO i (cU.kh i.next) O v∧bA v∧v=bE) F H:=by
 have hn:=Y.n;have b0:=M.s;obtain⟨U,r2⟩:=QD f;unfold o7 at d;simp only[go_sem,ai 6 e5 7];have P:∀k,k≠0→V.aA [.agg [Z,.str u,ab],ah e]=rJ k→∀g,rd 12 g=.ptr A 0→rd 13 g=ah e→rd 16 g=ah k→bw (pc 6 4) (fu (n6 e5) fun O i=>GT i∧∃v,bO i (cU.kh i.next) O v∧bA v∧v=bE) g H:=fun k hk h g a b c=>by
  unfold rJ at h;cases h;exact aga _ hk A g H hg a b c ac
 cases J:(numOf f).isSome
 ·rw[ao J]at d;rw[J]at U;rw[U]at j;simp only[go_sem,ai 6 e5 6,ai 6 e5 5,j];exact P 1 ag d.symm _ (by simp only[go_sem,r]) (by simp only[go_sem,z]) (by simp only[go_sem])
 rw[aj (by rw[J];decide)]at d;rw[J]at U;rw[U]at j;have hq:=r2 (rv f) (by rw[rv];cases h:numOf f;rw[h]at J;cases J;rfl);rw[hq]at X;simp only[rM]at R;simp only[fP]at iy;have Q:¬(0≤C∧C<(2*t.s+1:Nat)∧0≤v∧v<p.n)→∀g,rd 12 g=.ptr A 0→rd 13 g=ah e→rd 16 g=ah 3→bw (pc 6 4) (fu (n6 e5) fun O i=>GT i∧∃v,bO i (cU.kh i.next) O v∧bA v∧v=bE) g H:=fun h=>by
  rw[ao h]at d;exact P 3 ag d.symm
 by_cases G:C<0
 ·simp only[go_sem,ai 6 e5 6,ai 6 e5 5,j,o,G];exact Q aa _ (by simp only[go_sem,r]) (by simp only[go_sem,z]) (by simp only[go_sem])
 by_cases l:¬C<(t.de.length:Int)
 ·rw[gC]at l;simp only[go_sem,ai 6 e5 6,ai 6 e5 5,j,o,G,D,iy,gC,l];exact Q aa _ (by simp only[go_sem,r]) (by simp only[go_sem,z]) (by simp only[go_sem])
 have l:=Decidable.not_not.1 l;have a4:=l;rw[gC]at a4;by_cases S:v<0
 ·simp only[go_sem,ai 6 e5 6,ai 6 e5 5,j,o,E,G,D,iy,l,S];exact Q aa _ (by simp only[go_sem,r]) (by simp only[go_sem,z]) (by simp only[go_sem])
 by_cases L:¬v<p.n
 ·simp only[go_sem,ai 6 e5 6,ai 6 e5 5,j,o,E,G,W,D,R,iy,l,S,L];exact Q aa _ (by simp only[go_sem,r]) (by simp only[go_sem,z]) (by simp only[go_sem])
 have L:=Decidable.not_not.1 L;rw[aj aa]at d;obtain⟨m,rfl⟩:∃m:Nat,C=m:=⟨C.toNat,aa⟩;obtain⟨w,rfl⟩:∃w:Nat,v=w:=⟨v.toNat,aa⟩;have hm:m<2*t.s+1:=aa;have a':t.de[m]? =some (t.nd m):=by rw[aN.de,iW,tw hm];rfl
 have hr:=gi (n5 p.n) a';obtain⟨cs,a8⟩:=PN p.n (t.nd m);rw[a8]at hr;have al:=vF hr;have bj:m<t.de.length:=aa;simp only[bH]at d;by_cases I:¬vI (t.nd m)=5
 ·rw[ao I]at d;simp(disch:=omega)only[go_sem,ai 6 e5 6,ai 6 e5 5,j,o,E,G,W,D,R,iy,l,S,L,eU,al,I];exact P 11 ag d.symm _ (by simp only[go_sem,r]) (by simp only[go_sem,z]) (by simp only[go_sem])
 have I:=Decidable.not_not.1 I;rw[aj (not_not_intro I)]at d;have ad:=api p Y t M K a7;simp only[fJ,fP]at ad;have bo:(t.nb m).length=p.n:=by unfold aN.nb;rw[iu];exact M.len m aa
 have a1:=anp t (n:=m) aa;have bd:eo none 1 [bu rm t.oC,ah (m:Int)]=some (.val (.dh (br rm t.oC) ((m:Int).toNat*1))):=k7 (by rw[anq];omega);have a0:bg 1000 (rv f):=(zX (L:=30) hs).mono ag;have aw:∀x∈t.nb m,iE 1000 x:=fun x hx=>by
  unfold aN.nb at hx;obtain⟨y,hy,rfl⟩:=kT.1 hx;have:=P3 ag (M.q m aa y hy);exact⟨this.1.mono ag,this.2.mono ag⟩
 simp(disch:=omega)only[go_sem,ai 6 e5 6,ai 6 e5 5,j,o,E,G,W,D,R,iy,l,S,L,eU,al,I];refine use ad ?_;simp only[bk]at X;simp only[go_sem,o,E,a2,X,bd,a1];cases T:ou (rv f) ((t.bs m).getD w jb)
 ·rw[ao T]at d;have hh:=apj (t.nb m) aa w aa (rv f) a0 aw (by rw[Gt,JS];exact T);simp only[bz,bk]at hh;refine use hh ?_;simp only[go_sem];exact P 13 ag d.symm _ (by simp only[go_sem,r]) (by simp only[go_sem,z]) (by simp only[go_sem])
 ·rw[aj (by rw[T];decide)]at d;have hh:=G_ (t.nb m) aa w aa (rv f) a0 aw (by rw[Gt];exact TL (by rw[JS];exact T));simp only[bz,bk]at hh;refine use hh ?_;unfold A9 at d;cases d;simp only[go_sem,ai 6 e5 4];exact af' p Y t M K m w hm f (N+1) A _ H hg (by simp only[go_sem,o]) (by simp only[go_sem,E]) (by simp only[go_sem,f3]) (by simp only[go_sem,D]) (by simp only[go_sem,r]) (by simp only[go_sem,z]) (by simp only[fP];exact iy) ac b5 hA h5
set_option maxHeartbeats 2000000 in
theorem age(p:fc)(c:p.az)(t:aN)(o:t.az p)(b:Rat)(B:bg 81 b)(d v:Int)(a:List UInt8)(D:a.length≤30)(N:Nat)(F:Fr)(H:af)(G:GT H)(w:rd 1 F=ah d)(z:rd 2 F=ah v)(k:rd 3 F=.str a)(x:rd 10 F=.ptr N 0)(j:rd 11 F=.ptr (N+1) 0)
 (l:H.get N=.cells (rM p) 0) (iy:H.get (N+1)=.cells (fP t p.n b) 0) (b5:5≤N∧N+1<H.next):
 bw (pc 6 9) (fu (n6 e5) fun O i=>GT i∧∃v,bO i (cU.kh i.next) O v∧bA v∧v=bE) F H:=by
 have R:=c.n;have S:=o.s;have Q:=Gb;have A:=Tg p c;have m:=agf p c t o b B d v a D;have I:=zA a aa
 obtain⟨f,u,g,e,C,L,M⟩:∃f u g e,o7 p t b d v a=.aA [.agg [f,.str u,g],ah e]∧f.one=true∧g.one=true:=by
  unfold o7
  repeat' split
  all_goals exact⟨_,_,_,_,rfl,rfl,rfl⟩
 rw[C]at m;simp only[fJ,j0,su]at A;simp only[j0,fP]at m;simp only[rM]at l;have q:=bG (aa:N<H.next)
 have r:=bG (aa:N+1<H.next)
 have J:=bG (aa:N<H.next+1)
 have K:=bG (aa:N+1<H.next+1)
 simp only[go_sem,ai 6 e5 9,Ap e5,w,z,k,x,j,l,iy,fP,q,r];refine use A ?_;simp only[go_sem,mL,j,iy,fP,q,r];refine ck m b_ ?_;simp only[go_sem,L,M];simp only[go_sem,ai 6 e5 8,k];refine use I ?_;simp only[go_sem,sY,bz,bk];have E:=bG (aa:H.next<H.next+1)
 refine agd p c t o b B d v a D f g u e C N H.next (H.next+1) _ _ (G.keep fun y T=>by simp(disch:=omega)only[go_sem,dU]) ?_ ?_ ?_ ?_ ?_ ?_ ?_ ?_ ?_ ?_ ?_ ?_ ?_ ?_ ?_ ?_
 iterate 13 simp only[go_sem,w,z,k,x,j,q,J,rM,l,r,K,iy,E,bk]
 ·simp only[go_sem];omega
 ·simp only[go_sem];omega
 ·simp only[go_sem];omega
theorem R5(a:bg 4 w):(bf w).length≤30:=by
 have d:=vg a.num;have e:=vg a.den;unfold bf;rw[aV,aV];have b:(if w.num<0 then [(45:UInt8)]else []).length≤1:=by split<;>simp
 have c:(if w.den=1 then []else(47:UInt8)::dec w.den).length≤6:=by
  split
  ·simp
  ·rw[cV];omega
 omega
theorem agh(l:List Int)(u:ir l)(j v:Int)(s:List UInt8):ew 6 [mm l,ah j,ah v,.str s] bE:=by
 have g:(l.take 400).length≤400:=by rw[dP];omega
 have jj:ir (l.take 400):=fun z R=>u z (uS R)
 refine eK (.cons (NZ l) (.cons (.int _ _) (.cons (.int _ _) (.cons (.str _) .nil)))) (Ee e5 (h:=?_));simp only[go_sem,aU 6 e5];simp only[go_sem,ai 6 e5 11];refine(ap5 l u cU ag).mono ?_;rintro _ a ⟨p,t,m,i,r,P,I,hi,rfl,c,M,N⟩;have W:=r.n;have Q:cU.next=5:=rfl
 have f:GT a:=ga.keep fun y h=>M y aa
 simp(disch:=omega)only[go_sem,fJ,fP,nY,dU];rw[Q]at c;change a.get 7=_ at c;have X:8≤a.next:=N
 have Z:=bG (aa:7<a.next)
 have ab:=bG (aa:a.next<a.next+1)
 have ac:=bG (aa:7<a.next+1)
 have e:∀(F:Fr) (H:af) (s:List UInt8),s.length≤30→GT H→rd 1 F=ah j→rd 2 F=ah v→rd 3 F=.str s→rd 10 F=.ptr a.next 0→rd 11 F=.ptr (a.next+1) 0→H.get a.next=.cells (rM p) 0→H.get (a.next+1)=.cells (fP t p.n m) 0→a.next+1<H.next→bw (pc 6 9) (fu (n6 e5) fun T a=>GT a∧∃v,bO a (cU.kh a.next) T v∧bA v∧v=bE) F H:=fun F H s O J w x A B C D E G=>
  age p r t P m I j v s O a.next F H J w x A B C D E ⟨aa,G⟩
 by_cases U:20<s.length
 ·have d:((20:Int)<(s.length:Int))=True:=eq_true aa;simp only[go_sem,ai 6 e5 10,d];refine eV (Cb (l.take 400) g jj) ag hi ?_ ?_
  ·simp(disch:=omega)only[go_sem,dU,c]
  rintro _ S ⟨q,b,rfl⟩ L;simp only[go_sem,bz];refine use (s9 q b ag) ?_;simp only[go_sem];refine e _ _ (bf q) (R5 b) (f.keep fun y h=>by simp(disch:=omega)only[go_sem,dU]) ?_ ?_ ?_ ?_ ?_ ?_ ?_ ?_
  iterate 5 simp only[go_sem]
  ·simp(disch:=omega)only[go_sem,dU,rM]
  ·simp(disch:=omega)only[go_sem,dU,fP]
  ·simp only[go_sem];omega
 ·have d:((20:Int)<(s.length:Int))=False:=eq_false aa;simp only[go_sem,ai 6 e5 10,d];refine eV (k_ (l.take 400) g jj 2 ag) ag hi ?_ ?_
  ·simp(disch:=omega)only[go_sem,dU,c]
  rintro _ Y ⟨k,V,rfl⟩ K;by_cases o:(k:Int)=0
  ·simp only[go_sem,o];refine eV (Cb (l.take 400) g jj) ag K ?_ ?_
   ·simp(disch:=omega)only[go_sem,dU,c]
   rintro _ S ⟨q,b,rfl⟩ L;simp only[go_sem,bz];refine use (s9 q b ag) ?_;simp only[go_sem];refine e _ _ (bf q) (R5 b) (f.keep fun y h=>by simp(disch:=omega)only[go_sem,dU]) ?_ ?_ ?_ ?_ ?_ ?_ ?_ ?_
   iterate 5 simp only[go_sem]
   ·simp(disch:=omega)only[go_sem,dU,rM]
   ·simp(disch:=omega)only[go_sem,dU,fP]
   ·simp only[go_sem];omega
  ·simp only[go_sem,o];refine e _ _ s aa (f.keep fun y h=>by simp(disch:=omega)only[go_sem,dU]) ?_ ?_ ?_ ?_ ?_ ?_ ?_ ?_
   iterate 5 simp only[go_sem]
   ·simp(disch:=omega)only[go_sem,dU,rM]
   ·simp(disch:=omega)only[go_sem,dU,fP]
   ·simp only[go_sem];omega
end
open Go.au Go.aD
open Go.RowKit (Below)
theorem af_{w:World}{S:List Nat}{l:List Int}{nd v:Int}{s:List UInt8}{sl:Value}(hS:Start w S)(hl:aL (uq S w) (mm l) sl)(hI:ir l):
 Calls eO 6 #[sl,.int .i64 nd,.int .i64 v,.string ⟨⟨s⟩⟩] w fun e w'=>e=.returned (.bool true)∧Below w.heap.size w w':=by
 refine(((agh l hI nd v s) cU ga).2 (uq S w) w [sl,.int .i64 nd,.int .i64 v,.string ⟨⟨s⟩⟩] (apo hS) (ah2 S w) (.cons hl (.cons (.int _ _) (.cons (.int _ _) (.cons (.str s) .nil))))).mono ?_;rintro e w' ⟨v,v',H',ψ,rfl,jA,F0,rfl,rfl⟩;cases F0;refine⟨rfl,jA.same.os,jA.same.tape,jA.same.output,jA.size,?_⟩;intro k hk;by_cases h5:k<5
 ·by_cases h0:k=0
  ·subst h0;exact HU jA.rel jA.same (jA.le _ _ (xM h5)) ga.mR hS.t0
  ·by_cases h1:k=1
   ·subst h1;exact HU jA.rel jA.same (jA.le _ _ (xM h5)) ga.nE hS.t1
   ·by_cases h4:k=4
    ·subst h4;exact HU jA.rel jA.same (jA.le _ _ (xM h5)) ga.qP hS.t4
    ·exact(jA.jN (xM h5) (by rw[lG,aj h4,aj h1,aj h0])).2
 ·refine jA.lY hk fun b l' e1 e2=>?_
  obtain⟨h1,rfl⟩:=ur e1;have e2:b=k:=e2;omega
theorem ags{W:World}(hn:5≤W.heap.size)(h0:lP W 0 .u64 mR)(h1:lP W 1 .u8 nE)(h4:lP W 4 .u8 qP){sl:Value}(nd v:Int)(b:ByteArray)(hs:IL W sl):
 Calls eO 6 #[sl,.int .i64 nd,.int .i64 v,.string b] W fun e w'=>e=.returned (.bool true)∧Below W.heap.size W w':=by
 have i0:ir []:=fun _ h=>by cases h
 have anS:∀ {c o:Nat}{v:Value},W.cell? ⟨c,o,none⟩=some v→(∀k z,v=.int k z→k=.i64)→(∃cs t fr,W.heap[c]? =some (.cells cs t fr))∧c≠0∧c≠1∧c≠4:=fun{c o v} h hk=>by
  refine⟨Um h,fun e=>?_,fun e=>?_,fun e=>?_⟩
  ·subst e;obtain⟨z,hz⟩:=h0.kind h;exact absurd (hk _ _ hz) ag
  ·subst e;obtain⟨z,hz⟩:=h1.kind h;exact absurd (hk _ _ hz) ag
  ·subst e;obtain⟨z,hz⟩:=h4.kind h;exact absurd (hk _ _ hz) ag
 have amz:∃(S:List Nat) (zs:List Int),(∀c∈S,(∃cs t fr,W.heap[c]? =some (.cells cs t fr))∧c≠0∧c≠1∧c≠4)∧ir zs∧∀S',(∀c∈S,c∈S')→aL (uq S' W) (mm zs) sl:=by
  rcases hs with rfl|⟨a,len,cap,zs,rfl,rfl,hcap,hc,hI⟩
  ·exact⟨[],[],fun _ h=>(by cases h),i0,fun S' _=>.fj none 0 fun _=>rfl⟩
  ·cases zs with
   |nil=>exact⟨[],[],fun _ h=>(by cases h),i0,fun S' _=>.fj (some a) cap fun h=>(by cases h)⟩
   |cons z zs=>
    have hcell:W.cell? a=some (.int .i64 z):=hc 0 (m7 _);obtain⟨c,o,sp⟩:=a;obtain rfl:=aoj hcell;have hno:=anS hcell (fun k y h=>by cases h;rfl);obtain⟨cs,t,fr,BG⟩:=hno.1;refine⟨[c],z::zs,fun c' h=>(by rw[ec.1 h];exact hno),hI,fun S' aix=>?_⟩;refine .row (x:=.cells cs t fr) (by show za S' W c=_;unfold za;rw[ao (aix c aE),BG]) (Rg _) ?_ hcap;intro i v hv;rw[iW]at hv;cases hz:(z::zs)[i]? with
    |none=>rw[hz]at hv;cases hv
    |some u=>
     rw[hz]at hv;cases hv;have hi:i<(z::zs).length:=(gZ.1 hz).1;have h1:=hc i hi;rw[cy,hz,S5]at h1;exact Tr BG h1
 obtain⟨A,zs,hA,hI,F0⟩:=amz;obtain⟨⟨s⟩⟩:=b;exact af_ ⟨h0,h1,h4,hn,hA⟩ (F0 _ fun c h=>h) hI
open Go.ChangeShapes Go.WideShapes Go.ChangeAt Go.RowKit
def vB:List (String×DataW Unit):=[("math/bits.deBruijn64tab",Rows.laid_math_bits_deBruijn64tab),("internal/strconv.uint64pow10",Rows.laid_internal_strconv_uint64pow10),("math/bits.deBruijn32tab",Rows.laid_math_bits_deBruijn32tab)]
def wQ:Array Value:=#[.slice none 0 0,.int .i64 0,.int .i64 0,.string ByteArray.empty]
theorem agi(os:Os):laidMetH Tryz.prog vB ((World.doorLaid Tryz.prog 400 os).forCall (fun _ _=>0) ⟨#[],wQ,[]⟩).memory:=
 laidMetH_of_parts3 (fuel:=8) (laidMet_of_run' 8 (by kernel_rfl) (by kernel_rfl)) (by kernel_rfl) (by kernel_rfl)
theorem own:ownKnob Tryz.prog.godebug=none:=by kernel_rfl
theorem anL:Tryz.prog.inits.idxOf? 6=none:=by kernel_rfl
def yD(os:Os):World:=(World.doorLaid Tryz.prog 400 os).forCall (fun _ _=>0) ⟨#[],wQ,[]⟩
theorem ar7(os:Os):(yD os).variablesRefB Tryz.prog=true:=by kernel_rfl
theorem ar8(os:Os):((yD os).heap.toList.drop Tryz.prog.globals.size).take ((begin Tryz.prog (fun _ _=>0) default).world.heap.size-Tryz.prog.globals.size)=(begin Tryz.prog (fun _ _=>0) default).world.heap.toList.drop Tryz.prog.globals.size:=by kernel_rfl
theorem ar9(os:Os):Input.okWideB Tryz.prog (yD os) 6 ⟨#[],wQ,[]⟩=true:=by kernel_rfl
theorem ar_(os:Os)(H:Type)(enc:TypeId×Value→H):Rows.treeDividesSpec.preB enc Tryz.prog Tryz.f6 [] false (yD os).memory wQ 8=true:=by kernel_rfl
theorem ar'(os:Os)(H:Type)(enc:TypeId×Value→H):Rows.treeDividesSpec.sizedB enc Tryz.prog Tryz.f6 false (yD os).memory wQ 8=true:=by kernel_rfl
theorem Ad:Dp 0 20 .u64 462 166:=⟨by kernel_rfl,by kernel_rfl,by kernel_rfl,by kernel_rfl,by kernel_rfl⟩
theorem Ae:Dp 1 64 .u8 473 5:=⟨by kernel_rfl,by kernel_rfl,by kernel_rfl,by kernel_rfl,by kernel_rfl⟩
theorem Af:Dp 4 32 .u8 506 5:=⟨by kernel_rfl,by kernel_rfl,by kernel_rfl,by kernel_rfl,by kernel_rfl⟩
theorem Kn:eO.cellsOf 3=1:=by kernel_rfl
theorem Sa:eO.underlying 9=some .string:=by kernel_rfl
theorem aq1{W:World}(hsh:W.ShapedOpen eO)(h:laidMet eO vB W):lP W 0 .u64 mR∧lP W 1 .u8 nE∧lP W 4 .u8 qP:=by
 obtain⟨ps,⟨g1,u1,UU,f1,p1,q1,aiK,aiT,aiY,OE,⟨g0,bT,cs0,f0,aob,q0,aiJ,aiS,aiX,OD,⟨g4,u4,auU,f4,aws,awy,aiL,aiU,aiZ,OF,_,_⟩,_⟩,_⟩,_,_⟩:=h;obtain rfl:=Option.some.inj (Ou.symm.trans aiJ);obtain rfl:=Option.some.inj (BD.symm.trans aiK);obtain rfl:=Option.some.inj (Ov.symm.trans aiL);obtain rfl:=Option.some.inj (Ad.ty.symm.trans aiS);obtain rfl:=Option.some.inj (Ae.ty.symm.trans aiT);obtain rfl:=Option.some.inj (Af.ty.symm.trans aiU);rw[ama]at OD;rw[amb]at OE;rw[amc]at OF;exact⟨HT hsh Ou aa aiX (Lib.cells_of_tab Ad.ht Ad.he Ad.hce Ad.hct OD),HT hsh BD aa aiY (Lib.cells_of_tab Ae.ht Ae.he Ae.hce Ae.hct OE),HT hsh Ov aa aiZ (Lib.cells_of_tab Af.ht Af.he Af.hce Af.hct OF)⟩
theorem witness(os:Os)(H:Type)(enc:TypeId×Value→H):∃(w:World) (tape:Tape) (i:Input),w.os=os∧(w.forCall tape i).Shaped Tryz.checked.prog∧i.vars=[]∧Input.okWide Tryz.checked.prog (w.forCall tape i) .any w.heap.size 6 i∧
 ((Rows.treeDividesSpec.pre enc Tryz.checked.prog e5 [] false (w.forCall tape i).memory i.args∧laidMetH eO vB (w.forCall tape i).memory)∧sizedMet enc Tryz.checked.prog e5 (OpenSpec.ofChange Rows.treeDividesSpec) false (w.forCall tape i).memory i.args)∧Assume.holds {} Tryz.checked.prog (lone (Frame.enter Tryz.checked.prog 6 i.args .normal) [] (w.forCall tape i)):=
 ChangeSpec.witness_shaped (enc:=enc) (C:=Tryz.checked) (os:=os) (X:=fun w _=>laidMetH eO vB w) false (World.doorLaid eO 400 os) wQ 8 rfl (World.shaped_of_RefB (P:=eO) (ar7 os) (ar8 os)) (ar9 os) (ar_ os H enc) (ar' os H enc) (agi os)
set_option maxRecDepth 100000 in
theorem lifted(os:Os)(started:os.Started)(H:Type)(enc:TypeId×Value→H):
 ReturnsInHanded {} Tryz.checked os 6 .any (fun w args=>(Rows.treeDividesSpec.pre enc eO e5 [] false w args∧laidMetH eO vB w)∧sizedMet enc eO e5 (OpenSpec.ofChange Rows.treeDividesSpec) false w args)
  (Rows.treeDividesSpec.post enc eO e5 false true false false):=by
 refine returnsInHanded_of_calls own started anL (witness os H enc) ?_;intro w tape i _ hsh _ hok hpre _;obtain⟨_,_,_,fn',aiI,_,_,_,_,BH⟩:=hok;obtain rfl:fn'=e5:=Option.some.inj (aiI.symm.trans Tryz.func6);obtain⟨⟨⟨ds,gs,before,hw0,_⟩,aiv⟩,_⟩:=hpre;have hW:=DataW.Whole.of_heap (w':=w.forCall tape i) (by rfl) hw0;have y_:laidMetH eO vB (w.forCall tape i):=aiv.of_heap (by rfl)
 suffices aiF:Calls eO 6 i.args (w.forCall tape i) fun e W'=>∃v,e=.returned v∧Rows.treeDividesSpec.post enc eO e5 false true false false (w.forCall tape i) i.args v W' from
  aiF.mono fun e W' ⟨v,he,hp⟩=>by subst he;exact ChangeSpec.post_blind hp
 generalize w.forCall tape i=W at hsh BH hW y_
 generalize i.args=args at BH hW
 have hval:∀(j:Nat) t v,Tryz.f6.params[j]? =some t→args[j]? =some v→Value.okWide eO W .any w.heap.size t v:=BH;have aiy:=hW;obtain⟨p,q,Oz,hV,rfl,hfz,avf⟩:=hW;have hA:DataW.TrodAll enc eO W 0 (fun _=>true) true Tryz.f6.params.toList args.toList ds p:=Oz;rw[Tryz.params6]at hA hval;obtain⟨v0,awS,d0,au0,aob,q0,hargs,rfl,rfl,h0,aoS⟩:=trodAll_cons hA;obtain⟨v1,Ih,d1,au1,p1,q1,rfl,rfl,rfl,h1,r1⟩:=trodAll_cons aoS;obtain⟨v2,yp,d2,au2,p2,aww,rfl,rfl,rfl,h2,r2⟩:=trodAll_cons r1;obtain⟨v3,Ai,d3,au3,p3,awx,rfl,rfl,rfl,h3,aoT⟩:=trodAll_cons r2;obtain⟨rfl,rfl,rfl⟩:=trodAll_nil aoT;obtain rfl:args=#[v0,v1,v2,v3]:=by cases args;simp_all
 obtain⟨rfl,rfl⟩:=trodVars_none hV;obtain⟨a0,Pg,T9,rfl⟩:=okWide_slice Tryz.underlying22 (hval 0 22 v0 rfl rfl);have k0:=h0;obtain⟨nd,rfl,rfl,rfl,ar5⟩:=open_int Tryz.underlying3 (hval 1 3 v1 rfl rfl) h1;obtain⟨v,rfl,rfl,rfl,ar6⟩:=open_int Tryz.underlying3 (hval 2 3 v2 rfl rfl) h2;obtain⟨s,rfl,rfl,rfl,aiQ⟩:=Go.ChangeMaps.open_string Sa (hval 3 9 v3 rfl rfl) h3;have hs:IL W (Value.slice a0 Pg T9):=by
  obtain⟨fuel,hf⟩:=h0;rcases open_ints Tryz.underlying22 Tryz.underlying3 Kn hf with⟨hcs,_⟩|⟨x,l,c,zs,hcs,_,hl,hm,hz,_,hcell,F1⟩
  ·simp[Value.cells]at hcs;obtain⟨rfl,rfl,rfl⟩:=hcs;exact .inl rfl
  ·simp[Value.cells]at hcs;obtain⟨rfl,rfl,rfl⟩:=hcs;simp only[if_true]at hz;refine .inr ⟨x,_,_,zs.take Pg,rfl,?_,hl,fun i hi=>?_,fun z h=>?_⟩
   ·rw[dP];omega
   ·rw[dP]at hi;have h:=hcell i aa;rw[cy,List.getElem?_take,ao aa,←cy];exact h
   ·exact wf_i64 (F1 z (uS h))
 have aiw:laidMet eO vB W:=by
  rw[MakeChecks.laidMetH_plain _ _ _ (by kernel_rfl)]at y_;exact y_
 clear Oz BH;obtain⟨t0,t1,t4⟩:=aq1 hsh aiw;have hn:5≤W.heap.size:=by
  obtain⟨cs,t,h⟩:=Ot hsh 4 ag;have:=(Array.getElem?_eq_some_iff.1 h).1;omega
 refine(ags hn t0 t1 t4 nd v s hs).mono fun e W' ⟨he,JE⟩=>?_
 subst he;exact⟨_,rfl,_,_,_,[],_,[],aiy,trodAll_mk1 (shut_bool Tryz.underlying4 _),trodAll_mk4 (ajb Tryz.underlying22 Tryz.underlying3 Kn JE k0) (shut_int Tryz.underlying3 ar5) (shut_int Tryz.underlying3 ar6) (Go.ChangeMaps.shut_string Sa aiQ),rfl,JE.frame _,fun h=>by cases h⟩
open Go
theorem aji:(Rows.treeDividesRow.wf (OpenSpec.ofChange Rows.treeDividesSpec))=true:=by kernel_rfl
theorem ajt:(mapsRowed Tryz.prog)=true:=by kernel_rfl
theorem ajE:(Tryz.f6.params.all (Tryz.prog.readableRec ·))=true:=by kernel_rfl
theorem ajH:(namedTie Tryz.prog Rows.treeDividesRow.named Rows.treeDividesSpec.vars)=true:=by kernel_rfl
theorem ajI:((Rows.treeDividesRow.stops==[]))=true:=by kernel_rfl
theorem ajJ:((Tryz.prog.stops==[]))=true:=by kernel_rfl
theorem ajK:((Rows.treeDividesRow.knobs==[]))=true:=by kernel_rfl
theorem ajL:((Tryz.prog.stopKnobs==[]))=true:=by kernel_rfl
theorem ajM:((Rows.treeDividesRow.inPlace==Tryz.prog.inPlace 6))=true:=by kernel_rfl
theorem ajj:((Rows.treeDividesRow.unfollowed==Tryz.prog.unfollowed 6))=true:=by kernel_rfl
theorem ajk:((Rows.treeDividesRow.recurses==Tryz.prog.recurses 6))=true:=by kernel_rfl
theorem ajl:((Rows.treeDividesRow.named==Tryz.prog.varsNamed 6))=true:=by kernel_rfl
theorem ajm:((Rows.treeDividesRow.maps==(Tryz.f6.params.toList++Rows.treeDividesSpec.plain.varTypes Tryz.prog).any (Tryz.prog.mapsRec ·)))=true:=by kernel_rfl
theorem ajn:((Rows.treeDividesRow.ifaces==(Tryz.f6.params.toList++Rows.treeDividesSpec.plain.varTypes Tryz.prog).any (Tryz.prog.ifacesRec ·)))=true:=by kernel_rfl
theorem ajo:((Rows.treeDividesRow.mapsOut==Tryz.prog.mapsAmong Tryz.f6.resultTypes.toList))=true:=by kernel_rfl
theorem ajp:((Rows.treeDividesRow.loops==(Tryz.f6.params.toList++Rows.treeDividesSpec.plain.varTypes Tryz.prog).any (Tryz.prog.loopsFrom ·)))=true:=by kernel_rfl
theorem ajq:((Rows.treeDividesRow.wideKeys==(Tryz.f6.params.toList++Rows.treeDividesSpec.plain.varTypes Tryz.prog++Tryz.f6.resultTypes.toList).any (Tryz.prog.wideKeysFrom ·)))=true:=by kernel_rfl
theorem ajr:(Rows.treeDividesSpec.vars.all (Tryz.prog.varReadable ·))=true:=by kernel_rfl
theorem ajs:(Tryz.f6.resultTypes.all (fun t=>Tryz.prog.readableRec t&&decide (t<Tryz.prog.types.size)))=true:=by kernel_rfl
theorem aju:((Rows.treeDividesRow.ifacesOut==Tryz.f6.resultTypes.toList.any (Tryz.prog.ifacesRec ·)))=true:=by kernel_rfl
theorem ajv:((Rows.treeDividesRow.loopsOut==Tryz.f6.resultTypes.toList.any (Tryz.prog.loopsFrom ·)))=true:=by kernel_rfl
theorem ajw:((Rows.treeDividesRow.plainKeys==Tryz.prog.plainKeys))=true:=by kernel_rfl
theorem ajx:(Rows.treeDividesRow.shortTexts.isNone)=true:=by kernel_rfl
theorem ajy:(Tryz.prog.stopsHeard)=true:=by kernel_rfl
theorem ajz:(Tryz.prog.mayEnter)=true:=by kernel_rfl
theorem ajA:((Rows.treeDividesRow.lifted==Tryz.prog.liftsFinal))=true:=by kernel_rfl
theorem ajB:((Tryz.prog.make==some Rows.treeDividesRow.make))=true:=by kernel_rfl
theorem ajC:((Rows.treeDividesRow.kinds==(if Rows.treeDividesRow.domain.isEmpty then []else Tryz.f6.params.toList.map fun t=>match Tryz.prog.underlying t with|some (.int k)=>some k|_=>none)))=true:=by kernel_rfl
theorem ajD:((Rows.treeDividesRow.pinned==Rows.treeDividesRow.pinnedBy))=true:=by kernel_rfl
theorem ajF:((Rows.treeDividesRow.veiled==(Tryz.f6.params.toList++Rows.treeDividesSpec.plain.varTypes Tryz.prog++Tryz.f6.resultTypes.toList).any (Tryz.prog.veiledRec ·)))=true:=by kernel_rfl
theorem ajG:(Rows.treeDividesRow.veiledFits Tryz.prog Tryz.f6.params.toList (Tryz.f6.params.toList++Rows.treeDividesSpec.plain.varTypes Tryz.prog++Tryz.f6.resultTypes.toList))=true:=by kernel_rfl
def xU(a n:Nat):Bool:=Nat.rec (motive:=fun _=>Bool) true (fun k ih=>and (rowFine Tryz.prog (a+k)) ih) n
theorem Cu{a:Nat}:∀ {n:Nat},xU a n=true→∀t,a≤t→t<a+n→rowFine Tryz.prog t=true:=by
 intro n;induction n with
 |zero=>intro _ t h1 h2;omega
 |succ n ih=>
  intro h t h1 h2;have h':and (rowFine Tryz.prog (a+n)) (xU a n)=true:=h;rw[Bool.and_eq_true]at h';by_cases e:t=a+n
  ·subst e;exact h'.1
  ·exact ih h'.2 t h1 (by omega)
theorem anT:Tryz.prog.types.size=529:=by kernel_rfl
theorem ahl:xU 0 133=true:=by kernel_rfl
theorem ahm:xU 133 133=true:=by kernel_rfl
theorem ahn:xU 266 133=true:=by kernel_rfl
theorem aho:xU 399 133=true:=by kernel_rfl
theorem ahq:Tryz.prog.globals.all (fun g=>decide (g.type<Tryz.prog.types.size))=true:=by kernel_rfl
theorem ahp:Tryz.prog.funcs.all (fun f=>f.params.all fun t=>decide (t<Tryz.prog.types.size))=true:=by kernel_rfl
theorem laidOut:laidOutB Tryz.prog=true:=by
 unfold laidOutB;rw[ahq,ahp,Bool.and_true,Bool.and_true,List.all_eq_true];intro t ht;rw[List.mem_range,anT]at ht;rcases Nat.lt_or_ge t 133 with h|h
 ·exact Cu ahl t (by omega) (by omega)
 rcases Nat.lt_or_ge t 266 with h|h
 ·exact Cu ahm t (by omega) (by omega)
 rcases Nat.lt_or_ge t 399 with h|h
 ·exact Cu ahn t (by omega) (by omega)
 ·exact Cu aho t (by omega) (by omega)
theorem PT:Tryz.prog.funcs.any Func.goes=false:=by kernel_rfl
theorem anK(g:Nat):(Tryz.prog.funcs[g]?).any Func.goes=false:=by
 cases h:Tryz.prog.funcs[g]? with
 |none=>rfl
 |some fn=>
  have h1:=Array.any_eq_false.1 PT;obtain⟨hg,rfl⟩:=Array.getElem?_eq_some_iff.1 h;have h2:=h1 g hg;simpa using h2
theorem ah3(f:FuncId):Tryz.prog.goes f=false:=by
 unfold Program.goes;rw[PT,Bool.and_false,Bool.or_false,List.any_eq_false];intro g _;rw[anK];decide
theorem apG:Tryz.pinned.checked.prog.funcNamed Rows.treeDividesRow.func=some 6:=by kernel_rfl
theorem apF:Tryz.f6.isInstance Tryz.pinned.checked.prog Rows.treeDividesRow.origin Rows.treeDividesRow.targs:=of_decide_eq_true (by kernel_rfl)
theorem apJ:Tryz.f6.isWrapper Tryz.pinned.checked.prog Rows.treeDividesRow.wrapper Rows.treeDividesRow.mainSum:=by
 unfold Func.isWrapper
 first|(rw[if_pos (by decide+kernel)];kernel_rfl)|(rw[if_neg (by decide+kernel)];exact⟨rfl,rfl⟩)
theorem Tb{b0 b1 b2 Js Jv Jw Jx Jy Jz JA I9 I_ Ja Jb Jc Jd Je Jf Jg Jh Ji Jj Jk Jl Jm Jn Jo Jp Jq Jr Jt Ju:Bool}(h0:b0=true)(h1:b1=true)(h2:b2=true)(h3:Js=true)(h4:Jv=true)(h5:Jw=true)(h6:Jx=true)(h7:Jy=true)(h8:Jz=true)(h9:JA=true)(h10:I9=true)(h11:I_=true)(h12:Ja=true)(aia:Jb=true)(aib:Jc=true)(aic:Jd=true)(aid:Je=true)(aie:Jf=true)(aif:Jg=true)(aih:Jh=true)(aii:Ji=true)(aij:Jj=true)(aik:Jk=true)(h23:Jl=true)(ail:Jm=true)(aim:Jn=true)(ain:Jo=true)(aio:Jp=true)(aip:Jq=true)(aiq:Jr=true)(air:Jt=true)(ais:Ju=true):(b0&&b1&&b2&&Js&&Jv&&Jw&&Jx&&Jy&&Jz&&JA&&I9&&I_&&Ja&&Jb&&Jc&&Jd&&Je&&Jf&&Jg&&Jh&&Ji&&Jj&&Jk&&Jl&&Jm&&Jn&&Jo&&Jp&&Jq&&Jr&&Jt&&Ju)=true:=by
 subst h0 h1 h2 h3 h4 h5 h6 h7 h8 h9 h10 h11 h12 aia aib aic aid aie aif aih aii aij aik h23 ail aim ain aio aip aiq air ais;rfl
set_option maxRecDepth 100000 in
theorem apE:joinedFacts Tryz.prog 6 Tryz.f6 Rows.treeDividesSpec Rows.treeDividesRow=true:=
 Tb aji laidOut ajt ajE ajH ajI ajJ ajK ajL ajM ajj ajk ajl ajm ajn ajo ajp ajq ajr ajs aju ajv ajw ajx ajy ajz ajA ajB ajC ajD ajF ajG
theorem Uf:Rows.treeDividesRow.wfByText (OpenSpec.ofChange Rows.treeDividesSpec)=true:=by kernel_rfl
theorem Uc:Tryz.pinned.checked.prog.mainIs=some (true,"4c8dd576b03dcf5da98673c7924642f499d014415c0c6d845c2075c951f41aec".toList):=by kernel_rfl
theorem Ud:Tryz.prog.funcNamed "sosopt/sosoptlaw40.TreeDivides"=some 6:=by kernel_rfl
theorem Ua:false=Tryz.pinned.checked.prog.looks []:=by kernel_rfl
theorem Ue:([22,3,3,9].all fun u=> !Tryz.prog.wantsStandIn u)=true:=by kernel_rfl
theorem Ub:∀f fn,Tryz.pinned.checked.prog.funcNamed Rows.treeDividesRow.func=some f→Tryz.pinned.checked.prog.funcs[f]? =some fn→false=Tryz.pinned.checked.prog.looks []∧∀(j:Nat) t,fn.params[j]? =some t→Tryz.pinned.checked.prog.wantsStandIn t=false:=by
 intro f fn hf hfn;obtain rfl:f=6:=Option.some.inj (Ud.symm.trans hf)|>.symm;obtain rfl:fn=Tryz.f6:=(Option.some.inj (Tryz.func6.symm.trans hfn)).symm;refine⟨Ua,fun j t ht=>?_⟩;rw[Tryz.params6]at ht;have hm:t∈[22,3,3,9]:=by simpa using Array.mem_of_getElem? ht
 show Tryz.prog.wantsStandIn t=false;simpa using List.all_eq_true.1 Ue t hm
theorem Td(o:Option FuncId):(o.any Tryz.prog.goes||false)=false:=by
 cases o with
 |none=>rfl
 |some f=>rw[Option.any_some,ah3];rfl
theorem T':false=Rows.treeDividesRow.goesBy Tryz.pinned.checked.prog:=(Td (Tryz.prog.funcNamed Rows.treeDividesRow.func)).symm
theorem arl:Rows.treeDividesRow.holds Tryz.pinned (OpenSpec.ofChange Rows.treeDividesSpec):=
 OpenClaim.holds_of_wide 6 Tryz.f6 rfl rfl rfl rfl rfl rfl rfl ⟨rfl,rfl,rfl,rfl,rfl⟩ rfl rfl rfl rfl rfl apG Tryz.func6 apE apF apJ
  (fun os started H enc _=>lifted os started H enc)
theorem card_holds:Rows.TreeDividesCardSaid:=
 Claim7.holds_tied_plain_at .later [] [.data,.data,.data] true (true,"4c8dd576b03dcf5da98673c7924642f499d014415c0c6d845c2075c951f41aec") false
  arl (fun _ h=>by cases h) Uf (fun _ h=>by cases h) treeDivides_row_tie rfl ⟨rfl,rfl⟩ Uc rfl Ub T'
end Go.Proofs.YtddhncjmaahodaaGreatDoor
#print axioms Go.Proofs.YtddhncjmaahodaaGreatDoor.card_holds
