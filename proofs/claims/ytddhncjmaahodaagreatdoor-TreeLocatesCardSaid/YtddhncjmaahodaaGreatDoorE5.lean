/- The law TreeLocates of the package sosoptlaw40 holds: the given statement, whole. No conditions. -/
import Derived.Test.YtddhncjmaahodaaGreatDoorE4
import Derived.Test.YtddhncjmaahodaaGreatDoorRows
import Derived.ProofKit
import Derived.LaidMore
import Derived.OpenShut
import Derived.Stop.Joined
import Derived.SliceStrings
import Derived.Test.YtddhncjmaahodaaGreatDoorProg
import Derived.KernelRfl
import GoSem.ClaimDataLaid
import GoSem.ClaimGoes
import Derived.Test.YtddhncjmaahodaaGreatDoorCards
import Derived.SevenTiedAt
import Derived.Test.YtddhncjmaahodaaGreatDoorTie
set_option linter.all false
noncomputable section
open Array renaming getElem?_eq_some_iff→wz
open Go.Proofs.Tryz renaming f4→gU,prog→eP
open Int renaming ofNat_lt→m0,toNat_natCast→bJ
open List renaming all_eq_true→sg,cons_append→eS,ext_getElem?→si,getD_eq_getElem?_getD→bX,getElem?_eq_getElem→cn,getElem?_eq_none→kO,getElem?_eq_some_iff→fN,getElem?_map→iy,getElem?_range→wG,getElem?_set→oU,getElem_mem→wI,length_append→aS,length_cons→cL,length_map→g5,length_nil→kP,length_set→gT,length_take→dD,mem_append→gI,mem_map→k_,mem_of_getElem?→eT,mem_of_mem_take→uT,mem_singleton→dj,nil_append→eI,not_mem_nil→p6,range'→tE,range→oW
open Nat renaming le_of_ble_eq_true→mh,le_of_lt→g8,le_refl→aE,lt_of_le_of_lt→eY,min_eq_left→m5,mul_one→dF,mul_zero→fc,not_lt_zero→ke,succ_pos→lf,zero_add→dK,zero_le→bQ
namespace Go.Proofs.YtddhncjmaahodaaGreatDoor
section
open Go.au Go.aF
set_option maxRecDepth 100000
attribute [local irreducible] rd kc ex bE bF re rg mv bS pick alloc box bi bs be bp st fa cz cN dI c8 dN eB eA ms dx ek ej dY mx mn dX ap ee cJ dZ d_ cm ec ext er neg Go.au.not en ei ep eo ey eu ef ew dR dP u8
theorem apP(l:List Int)(A:hL l)(H:af)(D:5≤H.next):c7 23 [me l] H fun v b=>∃(p:fz) (t:aO) (d:Rat) (i:Nat),p.aA∧t.aA p∧a_ 81 d∧i≤(l.take 400).length∧v=.az [.ptr (H.next+2) 0,fD p,.agg (eL t p.n d)]∧b.get (H.next+2)=.cells (cB (l.take 400) i) 0∧(∀y,y<H.next→b.get y=H.get y)∧H.next+3≤b.next:=by
 have a:(l.take 400).length≤400:=by rw[dD];omega
 have jL:hL (l.take 400):=fun z B=>A z (uT B)
 refine cV Tryz.f23 (h:=?_);simp only[go_sem];refine(ano l _).mono ?_;rintro _ _ ⟨rfl,rfl⟩;simp only[go_sem];refine eX (alX (l.take 400) a jL) aa (bQ _) ?_ ?_
 ·simp only[go_sem]
 rintro _ J ⟨p,c,rfl⟩ j;have F:=c.n;simp(disch:=omega)only[go_sem,fD,fS];refine eX (lE (l.take 400) a jL 4 ag) aa j ?_ ?_
 ·simp(disch:=omega)only[go_sem,fS]
 rintro _ K ⟨k,E,rfl⟩ m;simp(disch:=omega)only[go_sem,fS];refine eX (TN (l.take 400) a jL p.n aa (decide (0<(k:Int)))) aa m ?_ ?_
 ·simp(disch:=omega)only[go_sem,fS]
 rintro _ L ⟨s,u,g,rfl⟩ o;simp(disch:=omega)only[go_sem,fS];refine eX (Iy (l.take 400) a jL 3 ag) aa o ?_ ?_
 ·simp(disch:=omega)only[go_sem,fS]
 rintro _ M ⟨z,N,O,rfl⟩ q;have e:a_ 81 (z:Rat):=a_.ofInt (by have:z.natAbs<2^81:=eY (aa:z.natAbs≤3) ag;omega) ag;have f:=ahQ (l.take 400) a jL p c s ⟨u,fun x h=>⟨(g x h).1,fun _ _=>(g x h).2⟩⟩ (z:Rat) e;simp only[fD,xH]at f;simp(disch:=omega)only[go_sem,fS];refine eX f aa q ?_ ?_
 ·simp(disch:=omega)only[go_sem,fS]
 rintro _ C ⟨t,w,G,rfl⟩ r;simp(disch:=omega)only[go_sem,eL,xJ,fS];refine⟨p,t,(z:Rat),C,c,w,e,r,rfl,?_,fun y I=>?_,aa⟩
 ·simp(disch:=omega)only[go_sem,fS]
 ·simp(disch:=omega)only[go_sem,fS]
theorem anK(l:List Int)(hl:l.length≤400)(C:hL l)(n:Nat)(N:n≤1000):kT l 25 [ah (n:Int)] fun v=>∃a:List Rat,a.length=n∧(∀q∈a,a_ 4 q)∧v=n6 a:=by
 refine nD (.cons (.int _ _) .nil) fun D u=>cV Tryz.f25 (h:=?_)
 simp only[go_sem];refine bH (fun k F H=>∃(m i:Nat) (v:V) (g:Nat) (a:List Rat),k=n-m∧m≤n∧i≤l.length∧rd 0 F=.ptr 5 0∧rd 1 F=ah (n:Int)∧rd 5 F=v∧rd 6 F=ah (m:Int)∧H.get 5=.cells (cB l i) 0∧6≤H.next∧aI H 4 v (bC aV a) g∧a.length=m∧∀q∈a,a_ 4 q) n ⟨0,D,.an,0,[],rfl,bQ _,u,?_,?_,?_,?_,?_,?_,.nil,rfl,fun _ h=>(p6 h).elim⟩ ?_
 iterate 3 simp only[go_sem]
 ·simp only[go_sem];rfl
 ·rw[lT]
 ·exact aE 6
 rintro k F H ⟨m,i,v,g,a,rfl,M,hi,d,e,p,f,b,O,j,A,s⟩;by_cases h:m<n
 ·have c:((m:Int)<(n:Int))=True:=eq_true aa;have K:aC .i64 ((m:Int)+1)=((m+1:Nat):Int):=by rw[aH _ aa];omega
  have Q:=hG aV vU a;simp only[go_sem,d,e,p,f,c];refine eX (GP l hl C) ag hi b ?_;rintro _ o ⟨q,z,rfl⟩ w;simp only[go_sem,bw,aV];refine gW (bytes:=64) (new:=aV q) (j.set b _) rfl ag rfl ⟨aa,ag⟩ fun J L g3 E P G I=>?_
  have vr:=G 5 (by simp only[go_sem];omega) ((j.set b (.cells (cB l o) 0)).ne (y:=5) (cs:=cB l o) (k:=0) (by simp only[go_sem]));simp only[go_sem]at I vr;simp only[go_sem,f,K];refine⟨n-(m+1),aa,m+1,o,J,g3,a++[q],rfl,aa,w,?_,?_,?_,?_,vr,aa,?_,?_,?_⟩
  iterate 4 simp only[go_sem,d,e]
  ·rw[qL];simpa [bC]using E
  ·rw[aS,A];rfl
  ·intro x B;rcases gI.1 B with h|h
   ·exact s x h
   ·rw[dj.1 h];exact z
 ·have c:((m:Int)<(n:Int))=False:=eq_false aa;simp only[go_sem,d,e,p,f,c];refine⟨i,_,hi,b,oB vU ag j (cD.refl _) (fun y t r=>?_) (hG aV vU a),iN pg a,a,aa,s,rfl⟩;rw[af.kE,aj];rintro rfl;rw[b]at r;exact t (cP.cells.inj r).2.symm
theorem z5(q:Rat)(a:a_ 100 q):aW 44 [.str (bh q)] (.az [bw q,bO]):=by
 have h:=zP (bh q) (by have:=C8 a;omega);rwa[Cw]at h
theorem ao'(n:Nat)(hn:n=1∨n=2)(p:List ax)(I:jo n p):aW 315 [gX n p] (.az [gu n p,bO]):=by
 have ci:=I.len;refine jy (.cons (.agg (BG n p)) .nil) (cV Tryz.f315 (h:=?_));have c1:((n:Int)<0)=False:=eq_false aa;have c2:((6:Int)<(n:Int))=False:=eq_false aa;simp only[go_sem,gX,cj,c1,c2];refine Bs p.length [1,2,4] 7 (fun m H=>8≤H.next∧∃v g,H.get 7=.cells [ah (n:Int),v] 0∧aI H 5 v (de (p.take m)) g∧(g=0∨7<g)) ?_ aa ag (mh rfl) ⟨aE 8,.an,0,by simp only[go_sem],.nil,.inl rfl⟩ ?_ ?_ ?_
 ·simp only[go_sem]
 ·intro m D d a hh hi K z;simp only[go_sem]at a;have h:d.get 5=.cells (cj n p) 0:=by rw[hh.1 5 ag];simp only[go_sem,cj]
  have bs:cT (eN p)=some (.val (ah (p.length:Int))):=rfl;simp only[go_sem,a,hi,h,cj,bs,m0];refine z _ ?_ ?_ ?_
  iterate 3 simp only[go_sem,a,hi]
 ·rintro m D d hm a hh hi ⟨h8,v,g,br,r,bd⟩;simp only[go_sem]at a;have h:d.get 5=.cells (cj n p) 0:=by rw[hh.1 5 ag];simp only[go_sem,cj]
  have L:d.get 6=.cells [ah 0,.an] 0:=by rw[hh.1 6 ag];simp only[go_sem]
  obtain⟨c,bo,P⟩:=iM hm;have l:=I.t c bo;have W:=Dg P;have h0:=vJ W;have o:cK (jQ p) (m*2+1)=some (b6 c.2):=Gv W rfl;have A:=b8 (aa:5<d.next)
  have bv:=b8 (aa:7<d.next)
  have ad:=z_ c.1;have e1:((if c.1.num<0 then(-1:Int)else if c.1.num=0 then 0 else 1)=0)=False:=eq_false (by
   have:=l.nz;split<;>omega)
  have e2:((c.2.length:Int)=(n:Int))=True:=eq_true (by have:=l.len;omega);simp(disch:=omega)only[go_sem,a,hi,h,cj,qy,h0];refine use (z5 c.1 l.q) ?_;simp(disch:=omega)only[go_sem,bw,aV,a,hi,h,A,cj,qy,o];simp only[bw,aV]at ad;refine use ad ?_;simp(disch:=omega)only[go_sem,a,hi,h,A,cj,qy,o,e1,e2];refine Bs n [1,2,4,5,6] (d.next+1) (fun _ _=>True) ?_ aa ag (by simp only[go_sem];omega) trivial ?_ ?_ ?_
  ·simp only[go_sem]
  ·intro j E e b f G K z;simp only[go_sem,a]at b;have qt:e.get 5=.cells (cj n p) 0:=by rw[f.1 5 aa];simp only[go_sem,A,h]
   simp only[go_sem,b,G,qt,cj,m0];refine z _ ?_ ?_ ?_
   iterate 3 simp only[go_sem,a,b,G]
  ·intro j E e hj b f G _;simp only[go_sem,a]at b;have qt:e.get 5=.cells (cj n p) 0:=by rw[f.1 5 aa];simp only[go_sem,A,h]
   have N:j<c.2.length:=by have:=l.len;omega
   have Z:=oF N;obtain⟨x,hx⟩:∃x,x=c.2.getD j 0:=⟨_,rfl⟩;have co:x≤24:=by
    have:x∈c.2:=by rw[hx,bX,cn N];exact wI N
    have:=Pm this;have:=l.sum;omega
   rw[←hx]at Z;have f1:((x:Int)<0)=False:=eq_false aa;have f2:((1048576:Int)<(x:Int))=False:=eq_false aa;have Y:rd 5 E=ah (m:Int):=by rw[b.2.2.2.1];exact hi
   simp(disch:=omega)only[go_sem,a,b,hi,G,Y,qt,cj,qy,oD,o,Z,f1,f2];exact kb
  ·intro E e b f _;simp only[go_sem,a]at b;have qt:e.get 5=.cells (cj n p) 0:=by rw[f.1 5 aa];simp only[go_sem,A,h]
   have BN:e.get 7=.cells [ah (n:Int),v] 0:=by rw[f.1 7 aa];simp only[go_sem,bv,br]
   have M:e.get d.next=.cells (aV c.1) 0:=by rw[f.1 _ aa];simp only[go_sem];rfl
   have Y:rd 5 E=ah (m:Int):=by rw[b.2.2.2.1];exact hi
   have cs:=f.2;have cp:=b8 (aa:7<e.next)
   have X:aI e 5 v (de (p.take m)) g:=aI.qi r ⟨fun y hy _ _=>by rw[f.1 y aa];simp only[go_sem,b8 hy],aa⟩;obtain⟨bA,am,ap⟩:=r.bg;have da:(de (p.take m)).length=(p.take m).length*5:=pR _;have tl:(p.take m).length≤4096:=by rw[dD];omega
   simp only[aV]at M
   have a1:∀(F:Fr) (K:Fr→af→Prop),kg [1,2,4] F D→rd 5 F=ah (m:Int)→(∀w u i k,kg [1,2,4] w D→rd 5 w=ah (m:Int)→aI i 5 u (de (p.take (m+1))) k→(k=0∨7<k)→i.get 7=.cells [ah (n:Int),u] 0→eF 7 d i→8≤i.next→K w i)→
    gj (some 118) (kf eP 5 [ex 119 (fa 1 (rd 4)),bE (st 1 (rd 119) (rd 118))] K) F (fH 5 88 [v,.slice e.next 0 1 (.known 1)] (e.push (.cells (iu c) 0))):=by
    intro F K O ba z;simp only[go_sem,a]at O;refine gW (bytes:=88) (new:=iu c) X rfl ag rfl ⟨aa,ag⟩ fun v3 H3 g3 B ar aw c0=>?_
    have a0:=(aw 7 aa (X.ne BN)).trans BN;obtain⟨p3,b1,b2⟩:=B.bg;simp only[go_sem,O,a0,p3,b1,b2];refine z _ v3 _ g3 ?_ ?_ ?_ aa ?_ (eF.set ⟨fun y hy=>?_,aa⟩ (aE _) _) (by simp only[go_sem];omega)
    iterate 2 simp only[go_sem,O,a,ba]
    ·rw[R6 P,wk];have:=B.set a0 (.cells [ah (n:Int),v3] 0);simpa [de]using this
    ·simp only[go_sem]
    ·rw[aw y aa aa,f.1 y aa];simp only[go_sem,b8 (aa:y<d.next)]
   have h7:=hh.2;by_cases cd:m=0
   ·have J:((0:Int)<(m:Int))=False:=eq_false aa;simp(disch:=omega)only[go_sem,b,hi,J,BN,qt,M,cj,qy,o];refine a1 _ _ ?_ ?_ fun w u i k C R S k7 T U V=>?_
    iterate 2 simp only[go_sem,a,b,hi]
    simp only[go_sem,a]at C;simp only[go_sem,C,R];exact⟨hh.trans U,V,u,k,T,S,k7⟩
   ·have J:((0:Int)<(m:Int))=True:=eq_true aa;have w1:aC .i64 ((m:Int)-1)=((m-1:Nat):Int):=by rw[aH _ aa];omega
    obtain⟨s,bj,hs⟩:=iM (aa:m-1<p.length);have bc:=Dg hs;have a':cK (jQ p) ((m-1)*2+1)=some (b6 s.2):=Gv bc rfl;have Q:=I.t s bj;have bi:=QB I.ord hs (by rw[(aa:m-1+1=m)];exact P);have ab:=G4 s.2 c.2 (by rw[Q.len,l.len]) (by rw[Q.len];omega) (by have:=Q.sum;omega) (by have:=l.sum;omega);rw[bi]at ab;simp(disch:=omega)only[go_sem,b,hi,J,w1,qt,cj,qy,o,a'];refine use ab ?_;simp(disch:=omega)only[go_sem,b,hi,BN,qt,M,cj,qy,o];refine a1 _ _ ?_ ?_ fun w u i k C R S k7 T U V=>?_
    iterate 2 simp only[go_sem,a,b,hi]
    simp only[go_sem,a]at C;simp only[go_sem,C,R];exact⟨hh.trans U,V,u,k,T,S,k7⟩
 ·rintro D d a hh ⟨h8,v,g,br,r,bd⟩;simp only[go_sem]at a;rw[List.take_length]at r;have L:d.get 6=.cells [ah 0,.an] 0:=by rw[hh.1 6 ag];simp only[go_sem]
  obtain⟨bA,am,ap⟩:=r.bg;simp only[go_sem,a,L,br,bA,am,ap];obtain⟨b',B,ar⟩:=(r.set L (.cells [ah (n:Int),v] 0)).di (H2:=af.zero d.next) ag (fun y _ _=>af.e7 _ _) (cD.refl _)
  rw[pR]at ar;rw[(aa:b'=p.length)]at B;exact⟨_,.az (.cons (.agg (.cons (.same _) (.cons B .nil))) (.cons (.same _) .nil)),.az (.cons (.agg (vn n p)) (.cons (.bool _) .nil)),rfl⟩
theorem Qr(n:Nat)(b:n=1∨n=2)(p:List ax)(a:jo n p):aW 257 [gX n p] (.az [gu n p,bO]):=by
 have j:=a.len;have c:=ao' n b p a;have f:((4096:Int)<(p.length:Int))=False:=eq_false aa;have i:cT (eN p)=some (.val (ah (p.length:Int))):=rfl;have d:cT (bG p)=some (.val (ah (p.length:Int))):=rfl;simp only[gX,cj,gu,f_]at c;refine jy (.cons (.agg (BG n p)) .nil) (cV Tryz.f257 (h:=?_));simp only[go_sem,gX,cj,f,i];refine use c ?_;cases p with
 |nil=>
  simp only[go_sem,d,ue,kP,Int.cast_ofNat_Int];exact jf rfl (.az (.cons (.agg (vn n [])) (.cons (.bool _) .nil)))
 |cons s p=>
  have e:=a.t s aB;have g:((0:Int)<((s::p).length:Int))=True:=eq_true (by rw[cL];omega);have hi:(0:Int)≤0∧(0:Int)<(((s::p).length:Nat):Int):=by rw[cL];omega
  have h:cK (de (s::p)) 4=some (b6 s.2):=rfl;simp only[go_sem,d,ue,g,pz hi,h];refine use (Rt s.2 n b e.len e.sum) ?_;simp only[go_sem,ue];exact jf rfl (.az (.cons (.agg (vn n _)) (.cons (.bool _) .nil)))
theorem Q1(n:Nat)(c:n=1∨n=2)(p:List ax)(d:jo n p):aW 192 [ah (n:Int),ah 1,qQ n p] (.az [pP n p,bO]):=by
 have a:=Qr n c p d;have b:=Qr n c [] (Cp n);simp only[gX,cj,gu,f_]at a b;have e:cT (bG [])=some (.val (ah 0)):=rfl;refine jy (.cons (.int _ _) (.cons (.int _ _) (.cons (.agg (vp n p)) .nil))) (cV Tryz.f192 (h:=?_));simp only[go_sem,qQ,iR,cj,vD];refine use a ?_;simp only[go_sem,ue];refine use b ?_;simp only[go_sem,ue,e];exact jf rfl (.az (.cons (.agg (vo n p)) (.cons (.bool _) .nil)))
theorem QI:aW 189 [ah 1] bO:=by
 refine jy (.cons (.int _ _) .nil) (cV Tryz.f189 (h:=?_));simp only[go_sem];refine qX 1 ?_;simp(disch:=omega)only[go_sem,kz,aH,show(1:Int)<2*2↔True from⟨fun _=>trivial,fun _=>aa⟩];exact jf rfl (.bool _)
theorem apQ(w:Nat):(if((w:Nat):Rat).num<0 then(-1:Int)else if((w:Nat):Rat).num=0 then 0 else 1)=if w=0 then 0 else 1:=by
 rw[Rat.num_natCast,aj aa];by_cases h:w=0
 ·rw[ak h,ak aa]
 ·rw[aj h,aj aa]
theorem apF(w:Nat):aW 91 [bw (w:Rat)] (ah (if w=0 then 0 else 1)):=by
 have h:=z_ (w:Rat);rwa[apQ]at h
theorem Rq:aW 91 [bw 0] (ah 0):=z_ 0
theorem aqJ(q:Rat)(d:a_ 100 q):aW 256 [tc (bh q)] (.az [bw q,bw 0,bO]):=by
 have a:=z5 q d;have b:aW 44 [.str [48]] (.az [bw 0,bO]):=z5 0 ⟨ag,ag⟩;have c:=Rq;simp only[bw,aV]at a b c;refine jy (.cons (.agg (.cons (.str _) (.cons (.str _) (.cons (.int _ _) .nil)))) .nil) (cV Tryz.f256 (h:=?_));simp only[go_sem,tc];refine use a ?_;simp only[go_sem];refine use b ?_;simp only[go_sem];refine use QI ?_;simp only[go_sem];refine use c ?_;simp only[go_sem];exact jf rfl (.az (.cons (fX _) (.cons (fX _) (.cons (.bool _) .nil))))
theorem ap2(w:Nat):aW 191 [bw (w:Rat),bw 0,ah 1] (ah (if w=0 then 0 else 1)):=by
 have a:=apF w;have b:=Rq;obtain⟨r,c⟩:∃r:Int,r=if w=0 then 0 else 1:=⟨_,rfl⟩
 rw[←c]at a⊢;simp only[bw,aV]at a b;refine jy (.cons (fX _) (.cons (fX _) (.cons (.int _ _) .nil))) (cV Tryz.f191 (h:=?_));simp only[go_sem,bw,aV];refine use a ?_;simp only[go_sem];refine use b ?_;by_cases e:r=0
 ·simp only[go_sem,e];exact jf rfl (.int _ _)
 ·simp only[go_sem,e];exact jf rfl (.int _ _)
theorem ao2(n:Nat)(c:n=1∨n=2)(s:m7)(h:s.aA n):aW 190 [ah (n:Int),ah 1,.agg (k5 n s)] (.az [.agg (ki n s),bO]):=by
 have a:=aqJ (s.w:Rat) (Hl h.w);have b:=Q1 n c s.r h.r;simp only[tc,bw,aV,qQ,iR,cj,eS,eI,pP,iX,f_]at a b;refine jy (.cons (.int _ _) (.cons (.int _ _) (.cons (.agg (BD n s)) .nil))) (cV Tryz.f190 (h:=?_));simp only[go_sem,k5,iR,cj,vD];refine use a ?_;simp only[go_sem];refine use b ?_;simp only[go_sem,ue];exact jf rfl (.az (.cons (.agg (FT n s)) (.cons (.bool _) .nil)))
theorem apB(n:Nat)(s:m7):cG (ki n s)=true:=rfl
set_option maxHeartbeats 2000000 in
theorem ao1(b:Nat)(hn:b=1∨b=2)(o:List ax)(Y N:List (List ax))(ft:Y.length≤16)(le:N.length≤16)(c:oR)(hc:c.aA b Y.length N.length):aW 126 [fD ⟨b,o,Y,N⟩,.agg (jJ b c)] (.az [.agg (nA b c),bO]):=by
 have fw:=hc.Gx;have fv:=hc.lm;have cb:∀x:List (List ax),cT (fZ b x)=some (.val (ah (x.length:Int))):=fun _=>rfl
 refine jy (.cons (oA _) (.cons (.agg (BA b c)) .nil)) (cV Tryz.f126 (h:=?_));have d1:((64:Int)<(c.ps.length:Int))=False:=eq_false aa;have d2:((c.ms.length:Int)=(N.length:Int))=True:=eq_true aa;simp only[go_sem,fD,jJ];refine use QI ?_;simp only[go_sem,d1,d2,cb];obtain⟨pc,L⟩:∃pc:List V,pc=[ah (b:Int),ah (b:Int),bG o,fZ b Y,fZ b N]:=⟨_,rfl⟩;refine each c.ps.length [2,3,4,6,44,45] 8 (fun m F H=>9≤H.next∧∃v D g,H.get 8=.cells [ah 1,v,.an] 0∧aI H 2 v D g∧j9 H g D (bC (uB b) (c.ps.take m))∧D.length=m*2∧(g=0∨8<g)) ?_ ?_ aa ag (mh rfl) (fun _ _ _ _ _ _ h=>h) ⟨aE 9,.an,[],0,by simp only[go_sem],.nil,.nil,rfl,.inl rfl⟩ ?_ ?_
 iterate 2 simp only[go_sem]
 ·rintro m dC H1 hm e hh hi ⟨h8,v,D,g,br,S,a2,b2,eb⟩;simp only[go_sem]at e;obtain⟨a,bi,R⟩:=iM hm;have W:=ia (Hg b) R;have G:=hc.ps a bi;have f0:=G.li;have f5:=G.ls;have n1:=b8 (aa:H1.next<H1.next+1)
  have dv:=b8 (aa:8<H1.next)
  simp(disch:=omega)only[go_sem,e,hi,ff,W,n4,n1,dv];refine NI (n:=a.is.length) (cs:=cv a.is) ?_ ag (Ge _) ⟨aa,ag⟩ fun I H2 k1 k2 ⟨bA,a6,Z⟩ eh=>?_
  ·simp only[go_sem]
  simp only[go_sem]at k1 k2;have fr:H2.get 8=.cells [ah 1,v,.an] 0:=by rw[k1 8 aa];simp only[go_sem,dv,br,b8 (aa:8<H1.next+1)]
  have dl:H2.get H1.next=.cells [b6 a.is,b4 (k5 b) a.iG] 0:=by rw[k1 _ aa];simp only[go_sem,n1]
  have nb:=b8 (aa:H1.next<H2.next)
  have d3:((256:Int)<(a.iG.length:Int))=False:=eq_false aa;have bs:eF H1.next H1 H2:=⟨fun y d=>by rw[k1 y aa];simp only[go_sem,b8 (aa:y<H1.next+1),b8 d],aa⟩
  have df:H2.get 5=.cells pc 0:=by rw[bs.1 5 aa,hh.1 5 aa];simp only[go_sem,L]
  have e1:cT (b6 a.is)=some (.val (ah (a.is.length:Int))):=rfl;simp only[go_sem,bA,a6,Z,nb,dl,e1];obtain⟨f,M⟩:∃f,f=(H2.push (.cells [.an,.an] 0)).set H2.next (.cells [I,.an] 0):=⟨_,rfl⟩
  have f6:f.next=H2.next+1:=by rw[M];rfl
  have d6:f.get H2.next=.cells [I,.an] 0:=by rw[M];simp only[go_sem]
  have bv:eF H2.next H2 f:=by rw[M];exact⟨fun y d=>by simp only[go_sem,b8 d],by simp only[go_sem];omega⟩
  rw[←M];clear M;have dp:=(bv.1 H1.next aa).trans dl
  have eQ:=(bv.1 5 aa).trans df;refine each a.is.length [2,3,4,6,8,9,44,45,46,56,57] f.next (fun _ _ H=>H.next=f.next) ?_ ?_ aa ag (aE _) (fun _ _ _ _ _ _ h=>h) rfl ?_ ?_
  iterate 2 simp only[go_sem]
  ·intro j dT H4 U u J c1 be;simp only[go_sem,e]at u;have dk:=(J.1 5 aa).trans eQ;have a4:=(J.1 H1.next aa).trans dp
   obtain⟨x,hx⟩:∃x,a.is.getD j 0=x:=⟨_,rfl⟩;have ex:a.is[j]? =some x:=by rw[←hx,bX,cn U];rfl
   have fp:=G.ik x (eT ex);have f1:((x:Int)<0)=False:=eq_false aa;have f2:((x:Int)<(Y.length:Int))=True:=eq_true aa;by_cases h0:j=0
   ·have f3:((0:Int)<(j:Int))=False:=eq_false aa;simp(disch:=omega)only[go_sem,e,u,hi,c1,dk,a4,L,oD,oF,hx,f1,f2,f3,cb];exact⟨kb,be⟩
   ·have f3:((0:Int)<(j:Int))=True:=eq_true aa;have w1:aC .i64 ((j:Int)-1)=((j-1:Nat):Int):=by rw[aH _ aa];omega
    obtain⟨z,hz⟩:∃z,a.is.getD (j-1) 0=z:=⟨_,rfl⟩;have f4:((z:Int)<(x:Int))=True:=eq_true (by
     have G:=List.pairwise_iff_getElem.1 G.is (j-1) j aa U aa;rw[←hz,←hx,bX,bX,cn (by omega:j-1<a.is.length),cn U];exact m0.2 G)
    simp(disch:=omega)only[go_sem,e,u,hi,c1,dk,a4,L,oD,oF,hx,hz,f1,f2,f3,f4,w1,cb];exact⟨kb,be⟩
  ·intro dT H4 u J be;simp only[go_sem,e]at u;have a4:=(J.1 H1.next aa).trans dp
   have d7:=(J.1 H2.next aa).trans d6
   have aw:∀y,y<H2.next→H4.get y=H2.get y:=fun y d=>(J.1 y aa).trans (bv.1 y d)
   simp only[go_sem,u,a4,d3];have e8:∀s:Int,s=0∨s=1→(s<0)=False:=fun s h=>eq_false aa
   refine each a.iG.length [2,3,4,6,8,9,44,45,46,94,95] H2.next (fun j F H=>H2.next<H.next∧∃l t,H.get H2.next=.cells [I,l] 0∧aI H 12 l (bC (ki b) (a.iG.take j)) t∧(t=0∨H2.next<t)) ?_ ?_ aa ag aa (fun _ _ _ _ _ _ h=>h) ⟨aa,.an,0,d7,.nil,.inl rfl⟩ ?_ ?_
   iterate 2 simp only[go_sem]
   ·rintro j d0 i U A K c2 ⟨fa,l,t,P,p,bo⟩;simp only[go_sem,e,u]at A;obtain⟨s,eq,hs⟩:=iM U;have em:=ia (yh b) hs;have es:=G.iG s eq;have X:=ao2 b hn s es;have b1:=ap2 s.w;have da:((if s.w=0 then(0:Int)else 1)<0)=False:=e8 _ (by by_cases h:s.w=0<;>simp[h]);obtain⟨r,W⟩:∃r:Int,r=if s.w=0 then 0 else 1:=⟨_,rfl⟩
    rw[←W]at b1 da;have m1:=b8 (aa:H2.next<i.next)
    have m2:=b8 (aa:H2.next<i.next+1)
    have dt:=b8 (aa:i.next<i.next+1)
    have cd:=b8 (aa:5<i.next)
    have ce:=b8 (aa:6<i.next)
    have bb:i.get 5=.cells pc 0:=(K.1 5 aa).trans ((aw 5 aa).trans df);have bc:i.get 6=.cells (jJ b c) 0:=(K.1 6 aa).trans ((aw 6 aa).trans (by rw[bs.1 6 aa,hh.1 6 aa];simp only[go_sem,jJ]));simp only[k5,iR,cj,eS,eI,ki,aV,iX,f_]at X;simp only[bw,aV]at b1;simp(disch:=omega)only[go_sem,A,c2,ff,em,k5,iR,cj,vD,cd,ce,bb,bc,L,jJ];refine use X ?_;simp only[go_sem,ue,A,dt];refine use b1 ?_;simp only[go_sem,da,A,m1,m2,dt,P];have bj:=aI.ps (aI.ps p [.str [],.str [],ah 0,ah 0,.an,ah 0,.an] (.cells (k5 b s) 0)) [aD,.an,aD,.an,aD,.an,aD,.an,ah 0,.an,ah 0,.an] (.cells (ki b s) 0);have ev:=hG (ki b) (x6 b) (a.iG.take j);have et:(a.iG.take j).length≤2:=by rw[dD];omega
    refine gW (bytes:=192) (new:=ki b s) bj (x6 b s) ag (apB b s) ⟨aa,ag⟩ fun v3 ba O C a9 q al=>?_
    simp only[go_sem]at a9 q al;have rb:ba.get H2.next=.cells [I,l] 0:=by rw[q _ aa (p.ne P)];simp only[m1,m2,if_false,P]
    obtain⟨p3,ad,ae⟩:=C.bg;simp only[go_sem,e,u,A,c2,rb,p3,ad,ae];refine⟨eF.set ⟨fun y d=>?_,aa⟩ (aE _) _,aa,v3,O,rfl,?_,aa⟩
    ·rw[q y aa aa,aj aa,aj aa,aj aa,aj aa];exact K.1 y d
    ·rw[x4 hs];exact C.set rb _
   ·rintro d0 i A K ⟨fa,l,t,P,p,bo⟩;simp only[go_sem,e,u]at A;rw[yp]at p;obtain⟨l3,l4,a7⟩:=p.bg;have hK:∀y,y<H1.next→i.get y=H1.get y:=fun y d=>by
     rw[K.1 y aa,aw y aa];exact bs.1 y d
    have a1:aI i 2 v D g:=aI.qi S (fu.low hK aa);have fn:=aI.lt S;have B:i.get 8=.cells [ah 1,v,.an] 0:=(hK 8 aa).trans br;have a8:=b8 (aa:8<i.next)
    have ea:j9 i g (D++[I,l]) (bC (uB b) (c.ps.take (m+1))):=by
     rw[x4 R];refine(a2.step (fu.low hK aa) (.inr (.inl rfl))).app (j9.app (xs:=[I]) (ys:=[b6 a.is]) (eh i 2 v D g (fu.low (fun y d=>?_) aa) a1 (by simp only[go_sem];omega)) (aI.zz p a1 aa ag (hG (ki b) (x6 b) a.iG)));rw[K.1 y d,aw y d]
    simp only[go_sem,A,B,P,bA,a6,Z,l3,l4,a7,a8];refine gW (bytes:=48) (new:=[I,l]) a1 rfl ag (by simp only[go_sem,Z,a7]) ⟨aa,ag⟩ fun v4 ba O C a9 q al=>?_
    have cf:ba.get 8=.cells [ah 1,v,.an] 0:=(q 8 aa (a1.ne B)).trans B;obtain⟨p3,ad,ae⟩:=C.bg;simp only[go_sem,A,cf,p3,ad,ae,e,hi];refine⟨eF.set ⟨fun y d=>?_,aa⟩ (aE _) _,aa,v4,_,O,rfl,C.set cf _,ea.step ((fu.app q al).set cf _) aa,?_,aa⟩
    ·rw[q y aa aa,hK y aa];exact hh.1 y d
    ·rw[aS,b2];show m*2+2=_;omega
 ·rintro dC H1 e hh ⟨h8,v,D,g,br,S,a2,b2,eb⟩;simp only[go_sem]at e;rw[yp]at a2;obtain⟨bA,a6,Z⟩:=S.bg;have d5:H1.get 5=.cells pc 0:=by rw[hh.1 5 aa];simp only[go_sem,L]
  have cp:H1.get 6=.cells (jJ b c) 0:=by rw[hh.1 6 aa];simp only[go_sem,jJ]
  have d8:H1.get 7=.cells [ah 0,.an,.an] 0:=by rw[hh.1 7 aa];simp only[go_sem]
  simp only[go_sem,e,cp,jJ];refine each c.ms.length [2,3,4,6,138,139] 8 (fun m F H=>fu 0 H1 H∧∃l t,H.get 8=.cells [ah 1,v,l] 0∧aI H 4 l (bC (iX b) (c.ms.take m)) t∧(t=0∨H1.next≤t)) ?_ ?_ aa ag aa (fun _ _ _ _ _ _ h=>h) ⟨.refl,.an,0,br,.nil,.inl rfl⟩ ?_ ?_
  iterate 2 simp only[go_sem]
  ·rintro m dE f hm E T c0 ⟨Q,l,t,B,p,bo⟩;simp only[go_sem,e]at E;obtain⟨a,bi,R⟩:=iM hm;have W:=ia (yo b) R;have fi:=Q.n;have X:=Q1 b hn a (hc.ms a bi);have cd:=b8 (aa:5<f.next)
   have ce:=b8 (aa:6<f.next)
   have a8:=b8 (aa:8<f.next)
   have du:=b8 (aa:8<f.next+1)
   have fx:=b8 (aa:f.next<f.next+1)
   have bb:=(T.1 5 aa).trans d5;have bc:=(T.1 6 aa).trans cp;simp only[qQ,iR,cj,eS,eI,pP,iX,f_]at X;simp(disch:=omega)only[go_sem,E,c0,ff,W,iR,cj,vD,cd,ce,bb,bc,L,jJ];refine use X ?_;simp only[go_sem,ue,E,a8,du,B];have bj:=aI.ps (aI.ps p [ah 0,.an,ah 0,.an] (.cells (iR b a) 0)) [ah 0,.an,ah 0,.an] (.cells (iX b a) 0);have ev:=hG (iX b) (uF b) (c.ms.take m);have et:(c.ms.take m).length≤16:=by rw[dD];omega
   refine gW (bytes:=64) (new:=iX b a) bj (uF b a) ag rfl ⟨aa,ag⟩ fun v3 H4 O C a9 q al=>?_
   simp only[go_sem]at a9 q al;have rb:H4.get 8=.cells [ah 1,v,l] 0:=by rw[q _ aa (p.ne B)];simp only[a8,du,if_false,B]
   obtain⟨p3,ad,ae⟩:=C.bg;simp only[go_sem,e,E,c0,rb,p3,ad,ae];refine⟨eF.set ⟨fun y d=>?_,aa⟩ (aE _) _,⟨fun y d n1 n2=>?_,by simp only[go_sem];omega⟩,v3,O,rfl,?_,aa⟩
   ·rw[q y aa aa,aj aa,aj aa,aj aa,aj aa];exact T.1 y d
   ·have el:8≠y:=by rintro rfl;exact n1 _ br
    rw[af.aK,aj el,q y aa aa,aj aa,aj aa,aj aa,aj aa];exact Q.a y d n1 n2
   ·rw[x4 R];exact C.set rb _
  ·rintro dE f E T ⟨Q,l,t,B,p,bo⟩;simp only[go_sem,e]at E;rw[yp]at p;have a':=(T.1 7 aa).trans d8;obtain⟨l3,l4,a7⟩:=p.bg;simp only[go_sem,E,a',B,bA,a6,Z,l3,l4,a7];have ed:=(aI.qi S Q).set a' (.cells [ah 1,v,l] 0);refine⟨_,.az (.cons (.agg (.cons (.same _) (.cons (oB (HG b) ag ed (a2 _ _ (fun y cs k _ _=>af.e7 _ _) (Q.trans (fu.refl.set a' _) (.inl rfl)).to) (fun y h0 h1=>af.e7 _ _) ?_) (.cons (oB (uF b) ag (p.set a' _) (cD.refl _) (fun y h0 h1=>af.e7 _ _) (hG (iX b) (uF b) _)) .nil)))) (.cons (.same _) .nil)),.az (.cons (.agg (BB b c)) (.cons (.bool _) .nil)),rfl⟩;exact b2
theorem anx(p:fz)(s:List cc)(v:Nat)(g:v<p.n)(a:Rat)(f:a_ 100 a)(l r:Nat):aW 73 [fD p,c6 s,.agg (dy p.n (.split v a l r))] bO:=by
 have b:=z5 a f;have c:((v:Int)<0)=False:=eq_false aa;have d:((v:Int)<(p.n:Int))=True:=eq_true aa;simp only[bw,aV]at b;refine jy (.cons (oA p) (.cons (lq s) (.cons (.agg (oz _ _)) .nil))) (cV Tryz.f73 (h:=?_));by_cases h:(v:Int)=0
 ·simp only[go_sem,fD,dy,h,J5,oN];refine use b ?_;have e:((0:Int)<(p.n:Int))=True:=eq_true aa;simp only[go_sem,e];refine use Bw ?_;simp only[go_sem];exact jf rfl (.bool _)
 ·simp only[go_sem,fD,dy,h];refine use b ?_;simp only[go_sem,c,d];refine use Bw ?_;simp only[go_sem];exact jf rfl (.bool _)
theorem anw(p:fz)(a:p.aA)(s:List cc)(l:s.length=p.n)(u:∀x∈s,iK 90 x)(f:r9)(j:r_ p (s.map eE) f):aW 73 [fD p,c6 s,.agg (dy p.n (.leaf f))] bO:=by
 have t:=a.n;have A:=a.li;have z:=a.le;have w:∀x:List (List ax),cT (fZ p.n x)=some (.val (ah (x.length:Int))):=fun _=>rfl
 refine jy (.cons (oA p) (.cons (lq s) (.cons (.agg (oz _ _)) .nil))) (cV Tryz.f73 (h:=?_));rcases f with _|k|⟨b,c⟩
 ·simp only[go_sem,fD,dy];refine use Bw ?_;simp only[go_sem];exact jf rfl (.bool _)
 ·obtain⟨y,e,i⟩:=j;rw[Jd]at i;have g:=J3 s aa;unfold wY at g;rw[ak i]at g;have o:(k< -1)=False:=eq_false aa;have q:aC .i64 ((p.is.length:Int)+(p.es.length:Int))=((p.is.length+p.es.length:Nat):Int):=by rw[aH _ aa];omega
  have r:(k<((p.is.length+p.es.length:Nat):Int))=True:=eq_true e;simp only[go_sem,fD,dy];refine use g ?_;simp only[go_sem];refine use Bw ?_;simp only[go_sem,o,q,r,w];exact jf rfl (.bool _)
 ·have d:=Q8 p a s l u;rw[Hr]at d;have v:=x3 p.n 0 (s.map eE);rw[g5,l]at v;have h:=ao1 p.n t p.obj (p.is++h_ p.n 0 (s.map eE)) p.es (by rw[aS];omega) aa c j;obtain⟨m,e⟩:∃m,m=p.is++h_ p.n 0 (s.map eE):=⟨_,rfl⟩;rw[←e]at d h;simp only[fD,jJ,nA]at d h;cases b<;>
  ·simp only[go_sem,fD,dy,xJ,cond_true,cond_false];refine use d ?_;simp only[go_sem];refine use h ?_;simp only[go_sem,xJ];exact jf rfl (.bool _)
def mO(x:cc):cc:=⟨if x.hl then x.lo else 0,if x.hh then x.hi else 0,x.hl,x.hh⟩
def aO.nb(t:aO)(n:Nat):List cc:=(t.bs n).map mO
theorem Rs:rv []=0:=by unfold rv;rw[P_];rfl
theorem aqV(x:cc):uI (eE x)=mO x:=by
 obtain⟨lo,hi,a,b⟩:=x;cases a<;>cases b<;>simp[uI,eE,mO,oN,l7,Rs]
theorem ar6(x:cc):eE (mO x)=eE x:=by
 obtain⟨lo,hi,a,b⟩:=x;cases a<;>cases b<;>rfl
variable{h:Nat}
theorem Qd(e:0<h){x:cc}(d:iK h x):iK h (mO x):=by
 obtain⟨lo,hi,a,b⟩:=x;have c:a_ h 0:=Ct e;cases a<;>cases b
 ·exact⟨c,c⟩
 ·exact⟨c,d.2⟩
 ·exact⟨d.1,c⟩
 ·exact d
theorem GH(t:aO)(n i:Nat):(t.nb n).getD i gR=mO ((t.bs n).getD i gR):=by
 unfold aO.nb;rw[bX,bX,iy];cases(t.bs n)[i]? <;>rfl
theorem anM{a:Rat}{x:cc}(h:qk a x):qk a (mO x):=by
 obtain⟨lo,hi,c,d⟩:=x;refine⟨fun e=>?_,fun e=>?_⟩
 ·cases e;exact h.1 rfl
 ·cases e;exact h.2 rfl
theorem Qc(l:List cc)(i:Nat)(a:Rat):(pB l i a).map mO=(nV (l.map mO) i a).1∧(pL l i a).map mO=(nV (l.map mO) i a).2:=by
 have e:(l.map mO).getD i gR=mO (l.getD i gR):=by
  rw[bX,bX,iy];cases l[i]? <;>rfl
 unfold pB pL nV;rw[e,List.map_set,List.map_set];exact⟨rfl,rfl⟩
def kC(f:Nat→V)(a:Nat):Nat→Nat→List V
 |0,_=>[]
 |k+1,j=>(if j≤a then f j else .an)::kC f a k (j+1)
theorem Rc(f:Nat→V):∀n j,rep [V.an] n=kC f 0 n (j+1)
 |0,_=>rfl
 |n+1,j=>by rw[z7,Rc f n (j+1),kC,aj aa];rfl
theorem AV(f:Nat→V)(a:Nat):∀k j,(kC f a k j).length=k
 |0,_=>rfl
 |k+1,j=>by rw[kC,cL,AV]
theorem y6(f:Nat→V)(a:Nat):∀k j i,(kC f a k j)[i]? =if i<k then some (if j+i≤a then f (j+i)else .an)else none
 |0,_,_=>by rw[kC,aj aa];rfl
 |k+1,j,0=>by rw[ak (lf k)];rfl
 |k+1,j,i+1=>by
  rw[kC,List.getElem?_cons_succ,y6 f a k (j+1) i,(aa:j+1+i=j+(i+1))];simp only[Nat.add_lt_add_iff_right]
variable{u:Nat}{s:V}
theorem TT{f:Nat→V}{a:V}(j:f (2*h+1)=a)(k:f (2*h+2)=s)(b:2*h+2<u):((kC f (2*h) u 0).set (2*h+1) a).set (2*h+2) s=kC f (2*(h+1)) u 0:=by
 refine si fun i=>?_
 rw[oU,oU,gT,AV,y6,y6];simp only[dK];by_cases c:i=2*h+2
 ·subst c;rw[ak rfl,ak b,ak b,ak aa,k]
 ·by_cases d:i=2*h+1
  ·subst d;rw[aj aa,ak rfl,ak aa,ak aa,ak aa,j]
  ·rw[aj (fun e=>c e.symm),aj (fun e=>d e.symm)];have e:(if i≤2*h then f i else V.an)=if i≤2*(h+1)then f i else V.an:=by
    by_cases g:i≤2*h
    ·rw[ak g,ak aa]
    ·rw[aj g,aj aa]
   rw[e]
def o5(l:List cc):List V:=[c6 l]
def qH(t:aO)(j:Nat):V:=c6 (t.nb j)
theorem J6(t:aO)(a:Nat):∀k j,j+k≤a+1→kC (qH t) a k j=bC o5 ((tE j k).map t.nb)
 |0,_,_=>rfl
 |k+1,j,h=>by rw[kC,ak aa,J6 t a k (j+1) aa];rfl
def aO.mM(t:aO):List (List cc):=(tE 0 (2*t.s+1)).map t.nb
theorem ao8(p:fz)(h:p.aA)(t:aO)(j:t.aA p)(b:Rat)(hb:a_ 81 b):aW 29 [fD p,.agg (eL t p.n b)] (.az [b4 o5 t.mM,bO]):=by
 have hn:=h.n;have Z:=j.s;have l0:(t.bs 0).length=p.n:=j.len 0 aa;have N:=aoZ p.n (t.c9 0) (by rw[aO.c9,g5];omega) (fun bv Z=>by
  obtain⟨x,o,rfl⟩:=k_.1 Z;have X:=j.q 0 aa x o;show(if x.hl=true then _ else _:List UInt8).length≤500∧(if x.hh=true then _ else _:List UInt8).length≤500;exact⟨by split;exact pU X.1 ag;simp,by split;exact pU X.2 ag;simp⟩)
 rw[aoP (show th p.n (t.c9 0)=true from Sn _ _ l0 fun x o=>(j.rt x o).2),show(t.c9 0).map uI=t.nb 0 by unfold aO.c9 aO.nb;rw[List.map_map];exact List.map_congr_left fun x _=>aqV x]at N;have Y:=z5 b (hb.mono ag);have c1:((t.gf.length:Int)<1)=False:=eq_false (by rw[lD];omega);have c2:((256:Int)<(t.gf.length:Int))=False:=eq_false (by rw[lD];omega);have m1:∀(k:Nat) (O:List V),k=24∨k=1→mL k O [ah (t.gf.length:Int),ah (t.gf.length:Int)]=some (.new (rep O (2*t.s+1)) (.slice (2*t.s+1) (2*t.s+1))):=fun k O g=>by
  rw[ir ⟨aa,by rw[lD];rcases g with rfl|rfl<;>omega,by rw[lD];omega⟩,bJ,lD]
 have bd:(0:Int)≤0∧(0:Int)<((2*t.s+1:Nat):Int):=aa;simp only[ij,bw,aV]at N Y;refine jy (.cons (oA p) (.cons (.agg (.cons (iN sH _) (.cons (.str _) (.cons (iN (oz _) _) .nil)))) .nil)) (cV Tryz.f29 (h:=?_));simp only[go_sem,fD,eL];refine use N ?_;simp only[go_sem];refine use Y ?_;simp only[go_sem,c1,c2,m1 24 _ (.inl rfl),m1 1 _ (.inr rfl),b3 bd];rw[Rc (qH t) _ 0,Hw _ 0,show c6 (t.nb 0)::kC (qH t) 0 (2*t.s) (0+1)=kC (qH t) 0 (2*t.s+1) 0 from(by rw[kC,ak (aE 0)];rfl),show V.bool true::jz 0 (2*t.s) (0+1)=jz 0 (2*t.s+1) 0 from rfl];obtain⟨pc,M⟩:∃pc:List V,pc=[ah (p.n:Int),ah (p.n:Int),bG p.obj,fZ p.n p.is,fZ p.n p.es]:=⟨_,rfl⟩;refine each (2*t.s+1) [2,3,10,11,63,64] 7 (fun m _ H=>H.get 8=.cells (kC (qH t) (2*min m t.s) (2*t.s+1) 0) 0∧H.get 9=.cells (jz (2*min m t.s) (2*t.s+1) 0) 0∧10≤H.next) ?_ ?_ aa ag ?_ (fun _ _ _ _ _ _ h=>h) ?_ ?_ ?_
 iterate 2 simp only[go_sem,lD]
 ·simp only[go_sem];omega
 ·refine⟨?_,?_,?_⟩
  iterate 2 simp only[go_sem,Nat.zero_min,fc]
  ·simp only[go_sem];omega
 ·intro m ac z G g hh hi ⟨d,u,aw⟩;simp only[go_sem]at g;have Q:z.get 5=.cells pc 0:=by rw[hh.1 5 ag];simp only[go_sem,M]
  have ar:z.get 6=.cells (eL t p.n b) 0:=by rw[hh.1 6 ag];simp only[go_sem,eL]
  have a4:t.gf[m]? =some (t.nd m):=by rw[aO.gf,iy,wG G];rfl
  have I:=ia (sY p.n) a4;have bj:m<t.gf.length:=by rw[lD];exact G
  have a2:(t.bs m).length=p.n:=j.len m aa;have a9:(t.nb m).length=p.n:=by unfold aO.nb;rw[g5];exact a2
  have J:∀x∈t.nb m,iK 81 x:=fun x o=>by
   unfold aO.nb at o;obtain⟨y,hy,rfl⟩:=k_.1 o;exact Qd ag (j.q m aa y hy)
  have B:=b8 (aa:5<z.next)
  have C:=b8 (aa:6<z.next)
  have D:=b8 (aa:8<z.next)
  have E:=b8 (aa:9<z.next)
  obtain⟨d1,d2,d3⟩:=Ch p.n (t.nd m);by_cases w:m<t.s
  ·rw[m5 (g8 w)]at d u;rw[show t.nd m=.split (t.v m) (t.a m) (2*m+1) (2*m+2)from ak w]at I;have a5:=j.v m w;have L:=j.wV m w;have A:=anx p (t.nb m) (t.v m) a5 (t.a m) (L.mono ag) (2*m+1) (2*m+2);have W:=Qa (t.a m) (pU L ag);have R:=Q6 (t.nb m) ⟨aa,aa⟩ (t.v m) aa (t.a m) (L.mono ag) (fun x o=>⟨(J x o).1.mono ag,(J x o).2.mono ag⟩) (by rw[GH];exact anM (j.c9 m w));have e1:qH t (2*m+1)=c6 (nV (t.nb m) (t.v m) (t.a m)).1:=by show c6 ((t.bs (2*m+1)).map mO)=_;rw[j.l m w,(Qc _ _ _).1];rfl
   have e2:qH t (2*m+2)=c6 (nV (t.nb m) (t.v m) (t.a m)).2:=by show c6 ((t.bs (2*m+2)).map mO)=_;rw[j.r m w,(Qc _ _ _).2];rfl
   have K:∀i,i≤2*t.s→cK (jz (2*m) (2*t.s+1) 0) i=some (.bool (decide (i≤2*m))):=fun i h=>by rw[gF,vX,ak aa,dK]
   have F:cK (kC (qH t) (2*m) (2*t.s+1) 0) m=some (c6 (t.nb m)):=by rw[gF,y6,ak G,ak aa,dK];rfl
   have al:((m:Int)<((2*m+1:Nat):Int))=True∧((m:Int)<((2*m+2:Nat):Int))=True∧(((2*m+1:Nat):Int)<(t.gf.length:Int))=True∧(((2*m+2:Nat):Int)<(t.gf.length:Int))=True∧(((2*m+1:Nat):Int)=((2*m+2:Nat):Int))=False:=by
    rw[lD];exact⟨eq_true aa,eq_true aa,eq_true aa,eq_true aa,eq_false aa⟩
   have P:decide (m≤2*m)=true∧decide (2*m+1≤2*m)=false∧decide (2*m+2≤2*m)=false:=⟨bk aa,aZ aa,aZ aa⟩;have w1:cC [V.bool true] (jz (2*m) (2*t.s+1) 0) (2*m+1)=some _:=e9 (by rw[x1];omega);have w2:cC [V.bool true] ((jz (2*m) (2*t.s+1) 0).set (2*m+1) bO) (2*m+2)=some _:=e9 (by rw[gT,x1];omega);have w3:cC [c6 (nV (t.nb m) (t.v m) (t.a m)).1] (kC (qH t) (2*m) (2*t.s+1) 0) (2*m+1)=some _:=e9 (by rw[AV];omega);have bc:cC [c6 (nV (t.nb m) (t.v m) (t.a m)).2] ((kC (qH t) (2*m) (2*t.s+1) 0).set (2*m+1) (c6 (nV (t.nb m) (t.v m) (t.a m)).1)) (2*m+2)=some _:=e9 (by rw[gT,AV];omega);simp only[fD,dy]at A;simp only[bw,aV]at W R;simp(disch:=omega)only[go_sem,g,hi,ff,I,dy,d,u,Q,M,b3,K,F,B,C,D,E,P];refine use A ?_;simp(disch:=omega)only[go_sem,g,d,u,b3,F,B,C,D,E];refine use W ?_;simp(disch:=omega)only[go_sem,g,d,u,b3,F,B,C,D,E];refine use R ?_;simp(disch:=omega)only[go_sem,g,hi,d,u,ar,eL,b3,K,B,C,D,E,al,P,w1,w2,w3,bc,m5,show m+1≤t.s from w];rw[TT e1 e2 aa,Q0 m _ aa];exact⟨kb,rfl,rfl,aa⟩
  ·have S:t.s≤m:=aa;rw[Nat.min_eq_right S]at d u;rw[show t.nd m=.leaf (t.fI m)from aj w]at I;have U:=j.fI m S aa;rw[show t.c9 m=(t.nb m).map eE by unfold aO.nb aO.c9;rw[List.map_map];exact List.map_congr_left fun x _=>(ar6 x).symm]at U;have A:=anw p h (t.nb m) a9 (fun x o=>⟨(J x o).1.mono ag,(J x o).2.mono ag⟩) (t.fI m) U;have K:cK (jz (2*t.s) (2*t.s+1) 0) m=some bO:=by rw[gF,vX,ak G,bk aa]
   have F:cK (kC (qH t) (2*t.s) (2*t.s+1) 0) m=some (c6 (t.nb m)):=by rw[gF,y6,ak G,ak aa,dK];rfl
   have a3:min (m+1) t.s=t.s:=Nat.min_eq_right aa;obtain⟨f,hf⟩:∃f,f=t.fI m:=⟨_,rfl⟩;rw[←hf]at I A;rcases f with _|k|⟨c,e⟩
   all_goals try cases c
   all_goals
    simp only[fD,dy,cond_true,cond_false]at A;simp(disch:=omega)only[go_sem,g,hi,ff,I,dy,d,u,Q,M,b3,K,F,B,C,D,E,cond_true,cond_false,xJ];refine use A ?_;simp(disch:=omega)only[go_sem,g,d,u,B,C,D,E,hi,a3];refine⟨kb,?_⟩;omega
 ·intro ac z g hh ⟨d,u,aw⟩;simp only[go_sem]at g;rw[Nat.min_eq_right aa,J6 t _ _ _ aa]at d;change z.get 8=.cells (bC o5 t.mM) 0 at d;have T:t.mM.length=2*t.s+1:=by unfold aO.mM;rw[g5,List.length_range']
  simp only[go_sem,g];refine⟨_,.az (.cons (.row (m:=2*t.s+1) ?_ aa (af.e7 _ _) (cD.refl (bC o5 t.mM))) (.cons (.same _) .nil)),.az (.cons (.row _ (BC o5 (fun a7=>.cons (lq a7) .nil) t.mM)) (.cons (.bool _) .nil)),?_⟩
  ·rw[fJ d,c_];exact iC (by rw[hG o5 (k:=1) fun _=>rfl,T,dF])
  ·unfold b4;rw[T]
theorem Qq(q:Rat)(s:cc):gr q (mO s)=gr q s:=by
 obtain⟨lo,hi,a,b⟩:=s;cases a<;>cases b<;>rfl
theorem Di(b:List (List UInt8)):n9 (b.map rv)=jN b:=funext fun i=>by
 unfold n9 jN;rw[bX,bX,iy];cases b[i]? with
 |none=>exact Rs.symm
 |some a=>rfl
def yK(t:aO)(x:Nat→Rat)(n m:Nat):Prop:=∀i,i<m→gr (x i) ((t.bs n).getD i gR)=false
theorem Ej(t:aO)(x:List Rat)(n m:Nat)(a:(t.bs n).length=m):ql (t.nb n) x=true↔yK t (n9 x) n m:=by
 unfold ql yK;rw[sg,show(t.nb n).length=m by unfold aO.nb;rw[g5,a]];refine⟨fun h i hi=>?_,fun h i hi=>?_⟩
 ·have:=h i (List.mem_range.2 hi);rw[GH,Qq]at this;simpa using this
 ·rw[GH,Qq,h i (List.mem_range.1 hi)];rfl
theorem Px(t:aO)(x:Nat→Rat):∀k n,n≤2*t.s→kI t x k n≤2*t.s
 |0,_,h=>h
 |k+1,n,h=>by
  rw[kI];split
  ·exact Px t x k _ (by split<;>omega)
  ·exact h
theorem Gw(p:fz)(t:aO)(c:t.aA p)(x:Nat→Rat):∀k b,b≤2*t.s→yK t x b p.n→yK t x (kI t x k b) p.n
 |0,_,_,h=>h
 |k+1,b,j,h=>by
  rw[kI];by_cases f:b<t.s
  ·rw[ak f];have hl:=c.len b j;have m:=c.v b f;have d:=h (t.v b) m;by_cases g:fL (x (t.v b)-t.a b)≤0
   ·rw[ak g];refine Gw p t c x k _ aa fun i hi=>?_
    rw[c.l b f];unfold pB;rw[bX,oU];by_cases e:t.v b=i
    ·subst e;rw[ak rfl,ak aa];unfold gr at d⊢;rw[Bool.or_eq_false_iff]at d⊢;exact⟨d.1,by simp;omega⟩
    ·rw[aj e,←bX];exact h i hi
   ·rw[aj g];refine Gw p t c x k _ aa fun i hi=>?_
    rw[c.r b f];unfold pL;rw[bX,oU];by_cases e:t.v b=i
    ·subst e;rw[ak rfl,ak aa];unfold gr at d⊢;rw[Bool.or_eq_false_iff]at d⊢;exact⟨by simp;omega,d.2⟩
    ·rw[aj e,←bX];exact h i hi
  ·rw[aj f];exact h
theorem PW(t:aO){n:Nat}(h:n≤2*t.s):cK (bC o5 t.mM) n=some (c6 (t.nb n)):=by
 have e:t.mM[n]? =some (t.nb n):=by unfold aO.mM;rw[iy,List.getElem?_range' aa];simp
 have:=ia (f:=o5) (k:=1) (fun _=>rfl) e;rw[dF]at this;exact vJ this
theorem PX(t:aO):t.mM.length=2*t.s+1:=by unfold aO.mM;rw[g5,List.length_range']
set_option maxHeartbeats 2000000 in
theorem Py(p:fz)(P:p.aA)(t:aO)(d:t.aA p)(r:Rat)(X:a_ 81 r)(a:List (List UInt8))(N:Nat)(F:Fr)(H:af)(c:GT H)(f:rd 1 F=mT a)(J:rd 8 F=.ptr N 0)(z:rd 9 F=.ptr (N+1) 0)(ap:rd 10 F=.ptr (N+2) 0)
 (eR:H.get N=.cells (zZ p) 0) (cM:H.get (N+1)=.cells (eL t p.n r) 0) (ar:H.get (N+2)=.cells (oo p) 0):
 bx (pc 4 7) (gk (uw gU) fun v1 E=>GT E∧∃v,bR E (cZ.mz E.next) v1 v∧bz v∧v=bO) F H:=by
 have g:=P.n;have a0:=d.s;have m:=alS;have k:=bZ c (rfl:V.bool true=bO) (.bool _);have ae:cT (mT a)=some (.val (ah (a.length:Int))):=rfl;simp only[ai 4 gU 7,IL gU];by_cases h4:a.length≤4
 ·have Q:a.length≤1000:=aa;have a1:=aqj 30 a Q;have G:((4:Int)<(a.length:Int))=False:=eq_false aa;simp only[go_sem,f,ae,G];refine bL a1 c ?_;cases S:Ah 30 a with
  |false=>
   simp only[go_sem];refine bL m c ?_;simp only[go_sem];exact k
  |true=>
   have R:∀j∈a,j.length≤30:=fun j h=>of_decide_eq_true (sg.1 S j h)
   have ab:=amu p P t d r X a Q R;have o:=anJ a Q fun j h=>by have:=R j h;omega
   simp only[js,eL]at ab;simp only[go_sem,ai 4 gU 6,f,z,ap,cM,ar,oo,eL];refine bL ab c ?_;by_cases l:pA a 0<0
   ·have bE:rL a=.az [b4 aV (a.map rv),bO]:=by unfold rL;rw[ak l]
    rw[bE]at o;have T:cT (b4 aV (a.map rv))=some (.val (ah (a.length:Int))):=by unfold b4;rw[g5];rfl
    by_cases K:a.length=p.n
    ·have w:((a.length:Int)=(p.n:Int))=True:=eq_true aa;have hq:∀x∈a.map rv,a_ 1000 x:=fun x D=>by
      obtain⟨j,S,rfl⟩:=k_.1 D;exact(x7 (L:=30) (R j S)).mono ag
     have L:=ao8 p P t d r X;have a5:∀b,b≤2*t.s→∀x∈t.nb b,iK 1000 x:=fun b g x D=>by
      unfold aO.nb at D;obtain⟨y,hy,rfl⟩:=k_.1 D;have:=Qd ag (d.q b g y hy);exact⟨this.1.mono ag,this.2.mono ag⟩
     have a4:∀b,b≤2*t.s→(t.nb b).length=p.n:=fun b g=>by unfold aO.nb;rw[g5];exact d.len b g
     have Y:∀b,b≤2*t.s→c4 30 [c6 (t.nb b),n6 (a.map rv)] (.bool (ql (t.nb b) (a.map rv))):=fun b g=>by
      have:=a4 b g;exact ao9 (t.nb b) (a.map rv) aa (by rw[g5];omega) hq (a5 b g)
     have u:=Y 0 aa;have U:=PW t (n:=0) aa;have a7:(0:Int)≤0∧(0:Int)<(t.mM.length:Int):=by rw[PX];omega
     have ad:dJ none 1 [b4 o5 t.mM,ah 0]=some (.val (.cY (bC o5 t.mM) 0)):=kh a7;simp only[fD,eL,n6]at L u;simp only[zZ]at eR;by_cases A:∃i,i<p.n∧gr (jN a i) ((t.bs 0).getD i gR)=true
     ·have e:lB p t a=.az [ah 0,ah 8]:=by unfold lB;rw[aj (by simpa using l),aj (by simpa using K),ak A]
      have I:ql (t.nb 0) (a.map rv)=false:=by
       cases hc:ql (t.nb 0) (a.map rv)
       ·rfl
       ·obtain⟨i,hi,O⟩:=A;have:=(Ej t _ 0 p.n (d.len 0 aa)).1 hc i hi;rw[Di,O]at this;cases this
      rw[I]at u;rw[e];simp only[go_sem,ai 4 gU 5,f];refine bL o c ?_;simp only[go_sem,ai 4 gU 4,ai 4 gU 3,ai 4 gU 2,T,J,z,eR,cM,eL,w];refine use L ?_;simp only[go_sem,ai 4 gU 1,ad,U];refine bL u c ?_;simp only[go_sem];refine bL m c ?_;simp only[go_sem];exact k
     ·have e:lB p t a=.az [ah (kI t (jN a) t.s 0:Nat),ah 0]:=by unfold lB;rw[aj (by simpa using l),aj (by simpa using K),aj A]
      have Z:yK t (jN a) 0 p.n:=fun i hi=>by
       cases O:gr (jN a i) ((t.bs 0).getD i gR)
       ·rfl
       ·exact absurd ⟨i,hi,O⟩ A
      have I:ql (t.nb 0) (a.map rv)=true:=(Ej t _ 0 p.n (d.len 0 aa)).2 (by rw[Di];exact Z);have B:=Px t (jN a) t.s 0 aa;have C:=ao_ p.n t a0 r (a.map rv) (fun i hi=>by rw[g5];have:=d.v i hi;omega) hq d.wV;rw[Di]at C;obtain⟨b,W⟩:∃b,b=kI t (jN a) t.s 0:=⟨_,rfl⟩;have am:ql (t.nb b) (a.map rv)=true:=by
       rw[W];exact(Ej t _ _ p.n (d.len _ B)).2 (by rw[Di];exact Gw p t d _ _ _ aa Z)
      rw[←W]at e B C;have M:=Y b B;have al:=PW t B;have a3:dJ none 1 [b4 o5 t.mM,ah (b:Int)]=some (.val (.cY (bC o5 t.mM) ((b:Int).toNat*1))):=kh (by rw[PX];omega);simp only[eL,n6]at C M;rw[I]at u;rw[am]at M;rw[e];simp only[go_sem,ai 4 gU 5,f];refine bL o c ?_;simp only[go_sem,ai 4 gU 4,ai 4 gU 3,ai 4 gU 2,T,J,z,eR,cM,eL,w];refine use L ?_;simp only[go_sem,ai 4 gU 1,ad,U];refine bL u c ?_;simp only[go_sem,ai 4 gU 0];refine bL m c ?_;simp only[go_sem,z,cM,eL];refine bL C c ?_;simp only[go_sem,a3,al];refine bL M c ?_;simp only[go_sem];exact k
    ·have w:((a.length:Int)=(p.n:Int))=False:=eq_false aa;have e:lB p t a=.az [ah 0,ah 4]:=by unfold lB;rw[aj (by simpa using l),ak K]
     simp only[zZ]at eR;rw[e];simp only[go_sem,ai 4 gU 5,f];refine bL o c ?_;simp only[go_sem,ai 4 gU 4,ai 4 gU 3,T,J,eR,w];refine bL m c ?_;simp only[go_sem];exact k
   ·have bE:rL a=.az [.an,aD]:=by unfold rL;rw[aj l]
    have e:lB p t a=.az [ah 0,ah 1]:=by unfold lB;rw[ak l]
    rw[bE]at o;rw[e];simp only[go_sem,ai 4 gU 5,f];refine bL o c ?_;simp only[go_sem,ai 4 gU 4];refine bL m c ?_;simp only[go_sem];exact k
 ·have G:((4:Int)<(a.length:Int))=True:=eq_true aa;simp only[go_sem,f,ae,G];refine bL m c ?_;simp only[go_sem];exact k
theorem amv(l:List Int)(m:hL l)(f:List (List UInt8))(own:Bool):c4 4 [me l,mT f,.bool own] bO:=by
 have r:(l.take 400).length≤400:=by rw[dD];omega
 have jL:hL (l.take 400):=fun z A=>m z (uT A)
 refine dm (.cons (N5 l) (.cons (.row _ (tW f)) (.cons (.bool _) .nil))) (KQ gU (h:=?_));simp only[go_sem,aU 4 gU];simp only[go_sem,ai 4 gU 10];refine(apP l m cZ ag).mono ?_;rintro _ a ⟨p,t,g,i,b,k,j,hi,rfl,d,s,u⟩;have F:=b.n;have x:cZ.next=5:=rfl
 have c:GT a:=fB.keep fun y e=>s y aa
 have h:=Tm p b;simp only[fD,js,oo]at h;simp(disch:=omega)only[go_sem,fD,eL,xJ,fS];rw[x]at d;change a.get 7=_ at d;have G:8≤a.next:=u
 have B:=b8 (aa:7<a.next)
 have C:=b8 (aa:a.next<a.next+1)
 have D:=b8 (aa:7<a.next+1)
 simp(disch:=omega)only[go_sem,ai 4 gU 9,B,C,D];refine use h ?_;simp(disch:=omega)only[go_sem,vD,fS];have J:=b8 (aa:7<a.next+1+1)
 cases own with
 |false=>
  simp only[go_sem,ai 4 gU 8];refine Py p b t k g j f a.next _ _ (c.keep fun y e=>by simp(disch:=omega)only[go_sem,fS]) ?_ ?_ ?_ ?_ ?_ ?_ ?_
  iterate 4 simp only[go_sem]
  ·simp(disch:=omega)only[go_sem,fS,zZ]
  ·simp(disch:=omega)only[go_sem,fS,eL]
  ·simp(disch:=omega)only[go_sem,fS,oo]
 |true=>
  simp(disch:=omega)only[go_sem,ai 4 gU 8,fS];refine eX (anK (l.take 400) r jL p.n aa) ag hi ?_ ?_
  ·simp(disch:=omega)only[go_sem,fS,d]
  rintro _ I ⟨o,H,w,rfl⟩ E;simp(disch:=omega)only[go_sem,fS];refine bL (aqU o aa (fun q v=>(w q v).mono ag)) (c.keep fun y e=>by simp(disch:=omega)only[go_sem,fS]) ?_;simp only[go_sem];refine Py p b t k g j (o.map bh) a.next _ _ (c.keep fun y e=>by simp(disch:=omega)only[go_sem,fS]) ?_ ?_ ?_ ?_ ?_ ?_ ?_
  iterate 4 simp only[go_sem]
  ·simp(disch:=omega)only[go_sem,fS,zZ]
  ·simp(disch:=omega)only[go_sem,fS,eL]
  ·simp(disch:=omega)only[go_sem,fS,oo]
end
open Go.au Go.aF
open Go.RowKit (Below)
theorem amt{w:World}{S:List Nat}{l:List Int}{pt:List (List UInt8)}{own:Bool}{sl sp:Value}(hS:Start w S)(hl:aJ (rM S w) (me l) sl)(hb:aJ (rM S w) (mT pt) sp)(hI:hL l):
 Calls eP 4 #[sl,sp,.bool own] w fun e w'=>e=.returned (.bool true)∧Below w.heap.size w w':=by
 refine(((amv l hI pt own) cZ fB).2 (rM S w) w [sl,sp,.bool own] (apd hS) (ahL S w) (.cons hl (.cons hb (.cons (.bool own) .nil)))).mono ?_;rintro e w' ⟨v,v',H',ψ,rfl,jv,F_,rfl,rfl⟩;cases F_;refine⟨rfl,jv.same.os,jv.same.tape,jv.same.output,jv.size,?_⟩;intro k hk;by_cases h5:k<5
 ·by_cases h0:k=0
  ·subst h0;exact Ia jv.rel jv.same (jv.le _ _ (xV h5)) fB.mQ hS.t0
  ·by_cases h1:k=1
   ·subst h1;exact Ia jv.rel jv.same (jv.le _ _ (xV h5)) fB.nC hS.t1
   ·by_cases h4:k=4
    ·subst h4;exact Ia jv.rel jv.same (jv.le _ _ (xV h5)) fB.qR hS.t4
    ·exact(jv.jx (xV h5) (by rw[kD,aj h4,aj h1,aj h0])).2
 ·refine jv.lU hk fun b l' e1 e2=>?_
  obtain⟨h1,rfl⟩:=uv e1;have e2:b=k:=e2;omega
theorem Rv{φ:aG}:∀l:List (List UInt8),bm φ (rT l) (l.map fun s=>Value.string ⟨⟨s⟩⟩)
 |[]=>.nil
 |s::l=>.cons (.str _) (Rv l)
def I0(W:World)(sl:Value):Prop:=sl=.slice none 0 0∨∃(a:Addr) (len cap:Nat) (iS:Nat→ByteArray),sl=.slice (some a) len cap∧len≤cap∧∀i,i<len→W.cell? (a.add i)=some (.string (iS i))
theorem aos{W:World}(hn:5≤W.heap.size)(h0:lK W 0 .u64 mQ)(h1:lK W 1 .u8 nC)(h4:lK W 4 .u8 qR){sl sp:Value}(own:Bool)(hs:IZ W sl)(hb:I0 W sp):
 Calls eP 4 #[sl,sp,.bool own] W fun e w'=>e=.returned (.bool true)∧Below W.heap.size W w':=by
 have i0:hL []:=fun _ h=>by cases h
 have P6:∀ {c o:Nat}{v:Value},W.cell? ⟨c,o,none⟩=some v→(∀k z,v=.int k z→k=.i64)→(∃cs t fr,W.heap[c]? =some (.cells cs t fr))∧c≠0∧c≠1∧c≠4:=fun{c o v} h hk=>by
  refine⟨Up h,fun e=>?_,fun e=>?_,fun e=>?_⟩
  ·subst e;obtain⟨z,hz⟩:=h0.kind h;exact absurd (hk _ _ hz) ag
  ·subst e;obtain⟨z,hz⟩:=h1.kind h;exact absurd (hk _ _ hz) ag
  ·subst e;obtain⟨z,hz⟩:=h4.kind h;exact absurd (hk _ _ hz) ag
 have aml:∃(S:List Nat) (zs:List Int),(∀c∈S,(∃cs t fr,W.heap[c]? =some (.cells cs t fr))∧c≠0∧c≠1∧c≠4)∧hL zs∧∀S',(∀c∈S,c∈S')→aJ (rM S' W) (me zs) sl:=by
  rcases hs with rfl|⟨a,len,cap,zs,rfl,rfl,hcap,hc,hI⟩
  ·exact⟨[],[],fun _ h=>(by cases h),i0,fun S' _=>.eW none 0 fun _=>rfl⟩
  ·cases zs with
   |nil=>exact⟨[],[],fun _ h=>(by cases h),i0,fun S' _=>.eW (some a) cap fun h=>(by cases h)⟩
   |cons z zs=>
    have hcell:W.cell? a=some (.int .i64 z):=hc 0 (lf _);obtain⟨c,o,sp⟩:=a;obtain rfl:=Qt hcell;have hno:=P6 hcell (fun k y h=>by cases h;rfl);obtain⟨cs,t,fr,vw⟩:=hno.1;refine⟨[c],z::zs,fun c' h=>(by rw[dj.1 h];exact hno),hI,fun S' F6=>?_⟩;refine .row (x:=.cells cs t fr) (by show vz S' W c=_;unfold vz;rw[ak (F6 c aB),vw]) (Ru _) ?_ hcap;intro i v hv;rw[iy]at hv;cases hz:(z::zs)[i]? with
    |none=>rw[hz]at hv;cases hv
    |some u=>
     rw[hz]at hv;cases hv;have hi:i<(z::zs).length:=(fN.1 hz).1;have h1:=hc i hi;rw[bX,hz,I8]at h1;exact Jm vw h1
 have aqS:∃(S:List Nat) (pt:List (List UInt8)),(∀c∈S,(∃cs t fr,W.heap[c]? =some (.cells cs t fr))∧c≠0∧c≠1∧c≠4)∧∀S',(∀c∈S,c∈S')→aJ (rM S' W) (mT pt) sp:=by
  rcases hb with rfl|⟨a,len,cap,iS,rfl,hcap,hc⟩
  ·exact⟨[],[],fun _ h=>(by cases h),fun S' _=>.eW none 0 fun _=>rfl⟩
  ·cases len with
   |zero=>exact⟨[],[],fun _ h=>(by cases h),fun S' _=>.eW (some a) cap fun h=>(by cases h)⟩
   |succ n=>
    have hcell:W.cell? a=some (.string (iS 0)):=hc 0 (lf _);obtain⟨c,o,sp⟩:=a;obtain rfl:=Qt hcell;have hno:=P6 hcell (fun k y h=>by cases h);obtain⟨cs,t,fr,vw⟩:=hno.1;refine⟨[c],(oW (n+1)).map fun i=>(iS i).data.toList,fun c' h=>(by rw[dj.1 h];exact hno),fun S' F6=>?_⟩;unfold mT;rw[g5,List.length_range];refine .row (x:=.cells cs t fr) (by show vz S' W c=_;unfold vz;rw[ak (F6 c aB),vw]) (Rv _) ?_ hcap;intro i v hv;have hb:∀b:ByteArray,(⟨⟨b.data.toList⟩⟩:ByteArray)=b:=fun b=>by cases b;rfl
    rw[iy,iy]at hv;by_cases hi:i<n+1
    ·rw[wG hi]at hv;cases hv;have h1:=hc i hi;rw[I8]at h1;show Obj.at _ _ (.string ⟨⟨(iS i).data.toList⟩⟩);rw[hb];exact Jm vw h1
    ·rw[kO (by rw[List.length_range];omega)]at hv;cases hv
 obtain⟨A,zs,hA,hI,F_⟩:=aml;obtain⟨B,pt,hB,hrb⟩:=aqS;have hS:Start W (A++B):=⟨h0,h1,h4,hn,fun c hc=>by
  rcases gI.1 hc with h|h
  ·exact hA c h
  ·exact hB c h⟩
 exact amt hS (F_ _ fun c h=>gI.2 (.inl h)) (hrb _ fun c h=>gI.2 (.inr h)) hI
open Go.ChangeShapes Go.WideShapes Go.ChangeAt Go.RowKit
def vE:List (String×DataW Unit):=[("math/bits.deBruijn64tab",Rows.laid_math_bits_deBruijn64tab),("internal/strconv.uint64pow10",Rows.laid_internal_strconv_uint64pow10),("math/bits.deBruijn32tab",Rows.laid_math_bits_deBruijn32tab)]
def wW:Array Value:=#[.slice none 0 0,.slice none 0 0,.bool false]
theorem af3(os:Os):laidMetH Tryz.prog vE ((World.doorLaid Tryz.prog 400 os).forCall (fun _ _=>0) ⟨#[],wW,[]⟩).memory:=
 laidMetH_of_parts3 (fuel:=8) (laidMet_of_run' 8 (by kernel_rfl) (by kernel_rfl)) (by kernel_rfl) (by kernel_rfl)
theorem own:ownKnob Tryz.prog.godebug=none:=by kernel_rfl
theorem anu:Tryz.prog.inits.idxOf? 4=none:=by kernel_rfl
def yR(os:Os):World:=(World.doorLaid Tryz.prog 400 os).forCall (fun _ _=>0) ⟨#[],wW,[]⟩
theorem arQ(os:Os):(yR os).variablesRefB Tryz.prog=true:=by kernel_rfl
theorem arR(os:Os):((yR os).heap.toList.drop Tryz.prog.globals.size).take ((begin Tryz.prog (fun _ _=>0) default).world.heap.size-Tryz.prog.globals.size)=(begin Tryz.prog (fun _ _=>0) default).world.heap.toList.drop Tryz.prog.globals.size:=by kernel_rfl
theorem arS(os:Os):Input.okWideB Tryz.prog (yR os) 4 ⟨#[],wW,[]⟩=true:=by kernel_rfl
theorem arT(os:Os)(H:Type)(enc:TypeId×Value→H):Rows.treeLocatesSpec.preB enc Tryz.prog Tryz.f4 [] false (yR os).memory wW 8=true:=by kernel_rfl
theorem arU(os:Os)(H:Type)(enc:TypeId×Value→H):Rows.treeLocatesSpec.sizedB enc Tryz.prog Tryz.f4 false (yR os).memory wW 8=true:=by kernel_rfl
theorem Au:DA 0 20 .u64 462 166:=⟨by kernel_rfl,by kernel_rfl,by kernel_rfl,by kernel_rfl,by kernel_rfl⟩
theorem Av:DA 1 64 .u8 473 5:=⟨by kernel_rfl,by kernel_rfl,by kernel_rfl,by kernel_rfl,by kernel_rfl⟩
theorem Aw:DA 4 32 .u8 506 5:=⟨by kernel_rfl,by kernel_rfl,by kernel_rfl,by kernel_rfl,by kernel_rfl⟩
theorem KA:eP.cellsOf 3=1:=by kernel_rfl
theorem KB:eP.cellsOf 9=1:=by kernel_rfl
theorem Sk:eP.underlying 9=some .string:=by kernel_rfl
theorem Ip:eP.underlying 35=some (.slice 9):=by kernel_rfl
section
variable {H:Type}{enc:TypeId×Value→H}{P:Program}{W W':World}
theorem aqD{t s:TypeId}{fuel:Nat}{cs:List Value}{x:DataW H×List MemPlace}(ht:P.underlying t=some (.slice s))(hs:P.underlying s=some .string)(ce:0<P.cellsOf s)
 (hb:Below W.heap.size W W') (h:DataW.trod enc P W 0 (fun _=>true) true fuel t cs=some x):∃n,DataW.trod enc P W' 0 (fun b=>decide (b<W.heap.size)) true n t cs=some x:=by
 rcases Go.Deep.open_slice ht h with⟨rfl,rfl⟩|⟨a,len,cap,m,n,D,Pl,rfl,_,hl,hm,hmm,rfl,hx⟩
 ·exact⟨1,by simp[DataW.trod,ht]⟩
 ·simp only[if_true]at hmm;subst hmm;have each:∀i,i<m→(∃cs n,W'.cells? 0 (a.add (i*P.cellsOf s)) (P.cellsOf s)=some cs∧DataW.trod enc P W' 0 (fun b=>decide (b<W.heap.size)) true n s cs=some (D i,Pl i))∧a.block<W.heap.size:=by
   intro i hi;obtain⟨cs',h1,h2⟩:=hx i hi;obtain⟨h3,h4⟩:=Uq hb ce h1;rw[block_add]at h4;obtain⟨b,rfl,e,hb⟩:=DataW.trod_string hs h2;exact⟨⟨_,1,h3,by rw[e];simp[DataW.trod,hs,hb]⟩,h4⟩
  by_cases h0:0<m
  ·exact Go.Deep.shut_slice_whole_cells ht (bQ _) hl hm (bk (each 0 h0).2) D Pl fun i hi=>(each i hi).1
  ·have hm0:m=0:=aa;subst hm0;have aix:len=0:=aa;subst aix;by_cases hsp:a.block<W.heap.size
   ·exact Go.Deep.shut_slice_whole_cells ht (bQ _) hl hm (bk hsp) D Pl fun i hi=>absurd hi (ke _)
   ·exact Go.Deep.shut_slice_cells ht (bQ _) hl hm (aZ hsp) D Pl fun i hi=>absurd hi (ke _)
end
theorem aqN{W:World}(hsh:W.ShapedOpen eP)(h:laidMet eP vE W):lK W 0 .u64 mQ∧lK W 1 .u8 nC∧lK W 4 .u8 qR:=by
 obtain⟨ps,⟨g1,u1,UY,f1,p1,q1,ais,aiC,aiH,OJ,⟨g0,bu,cs0,f0,an2,q0,air,aiB,aiG,OI,⟨g4,u4,auC,f4,av8,awb,ait,aiD,aiI,OK,_,_⟩,_⟩,_⟩,_,_⟩:=h;obtain rfl:=Option.some.inj (Oz.symm.trans air);obtain rfl:=Option.some.inj (BR.symm.trans ais);obtain rfl:=Option.some.inj (OA.symm.trans ait);obtain rfl:=Option.some.inj (Au.ty.symm.trans aiB);obtain rfl:=Option.some.inj (Av.ty.symm.trans aiC);obtain rfl:=Option.some.inj (Aw.ty.symm.trans aiD);rw[alY]at OI;rw[alZ]at OJ;rw[al0]at OK;exact⟨H_ hsh Oz aa aiG (Lib.cells_of_tab Au.ht Au.he Au.hce Au.hct OI),H_ hsh BR aa aiH (Lib.cells_of_tab Av.ht Av.he Av.hce Av.hct OJ),H_ hsh OA aa aiI (Lib.cells_of_tab Aw.ht Aw.he Aw.hce Aw.hct OK)⟩
theorem witness(os:Os)(H:Type)(enc:TypeId×Value→H):∃(w:World) (tape:Tape) (i:Input),w.os=os∧(w.forCall tape i).Shaped Tryz.checked.prog∧i.vars=[]∧Input.okWide Tryz.checked.prog (w.forCall tape i) .any w.heap.size 4 i∧
 ((Rows.treeLocatesSpec.pre enc Tryz.checked.prog gU [] false (w.forCall tape i).memory i.args∧laidMetH eP vE (w.forCall tape i).memory)∧sizedMet enc Tryz.checked.prog gU (OpenSpec.ofChange Rows.treeLocatesSpec) false (w.forCall tape i).memory i.args)∧Assume.holds {} Tryz.checked.prog (lone (Frame.enter Tryz.checked.prog 4 i.args .normal) [] (w.forCall tape i)):=
 ChangeSpec.witness_shaped (enc:=enc) (C:=Tryz.checked) (os:=os) (X:=fun w _=>laidMetH eP vE w) false (World.doorLaid eP 400 os) wW 8 rfl (World.shaped_of_RefB (P:=eP) (arQ os) (arR os)) (arS os) (arT os H enc) (arU os H enc) (af3 os)
set_option maxRecDepth 100000 in
theorem lifted(os:Os)(started:os.Started)(H:Type)(enc:TypeId×Value→H):
 ReturnsInHanded {} Tryz.checked os 4 .any (fun w args=>(Rows.treeLocatesSpec.pre enc eP gU [] false w args∧laidMetH eP vE w)∧sizedMet enc eP gU (OpenSpec.ofChange Rows.treeLocatesSpec) false w args)
  (Rows.treeLocatesSpec.post enc eP gU false true false false):=by
 refine returnsInHanded_of_calls own started anu (witness os H enc) ?_;intro w tape i _ hsh _ hok hpre _;obtain⟨_,_,_,fn',aiq,_,_,_,_,BU⟩:=hok;obtain rfl:fn'=gU:=Option.some.inj (aiq.symm.trans Tryz.func4);obtain⟨⟨⟨ds,gs,before,hw0,_⟩,aid⟩,_⟩:=hpre;have hW:=DataW.Whole.of_heap (w':=w.forCall tape i) (by rfl) hw0;have zo:laidMetH eP vE (w.forCall tape i):=aid.of_heap (by rfl)
 suffices ain:Calls eP 4 i.args (w.forCall tape i) fun e W'=>∃v,e=.returned v∧Rows.treeLocatesSpec.post enc eP gU false true false false (w.forCall tape i) i.args v W' from
  ain.mono fun e W' ⟨v,he,hp⟩=>by subst he;exact ChangeSpec.post_blind hp
 generalize w.forCall tape i=W at hsh BU hW zo
 generalize i.args=args at BU hW
 have hval:∀(j:Nat) t v,Tryz.f4.params[j]? =some t→args[j]? =some v→Value.okWide eP W .any w.heap.size t v:=BU;have aif:=hW;obtain⟨p,q,OE,hV,rfl,hfz,auY⟩:=hW;have hA:DataW.TrodAll enc eP W 0 (fun _=>true) true Tryz.f4.params.toList args.toList ds p:=OE;rw[Tryz.params4]at hA hval;obtain⟨v0,awv,d0,auI,an2,q0,hargs,rfl,rfl,h0,aoH⟩:=trodAll_cons hA;obtain⟨v1,Iu,d1,auJ,p1,q1,rfl,rfl,rfl,h1,r1⟩:=trodAll_cons aoH;obtain⟨v2,yE,d2,auK,p2,awa,rfl,rfl,rfl,h2,r2⟩:=trodAll_cons r1;obtain⟨rfl,rfl,rfl⟩:=trodAll_nil r2;obtain rfl:args=#[v0,v1,v2]:=by cases args;simp_all
 obtain⟨rfl,rfl⟩:=trodVars_none hV;obtain⟨a0,Pn,T',rfl⟩:=okWide_slice Tryz.underlying22 (hval 0 22 v0 rfl rfl);have k0:=h0;obtain⟨a1,Po,Ky,rfl⟩:=okWide_slice Ip (hval 1 35 v1 rfl rfl);obtain⟨an1,rfl,rfl,rfl⟩:=open_bool Tryz.underlying4 (hval 2 4 v2 rfl rfl) h2;have aiz:I0 W (Value.slice a1 Po Ky):=by
  obtain⟨fuel,hf⟩:=h1;rcases open_strings Ip Sk KB hf with⟨hcs,_⟩|⟨x,l,c,ss,hcs,_,hl,hm,hz,_,hcell,_⟩
  ·simp[Value.cells]at hcs;obtain⟨rfl,rfl,rfl⟩:=hcs;exact .inl rfl
  ·simp[Value.cells]at hcs;obtain⟨rfl,rfl,rfl⟩:=hcs;simp only[if_true]at hz;exact .inr ⟨x,_,_,fun i=>ss.getD i ByteArray.empty,rfl,hl,fun i hi=>hcell i aa⟩
 have hs:IZ W (Value.slice a0 Pn T'):=by
  obtain⟨fuel,hf⟩:=h0;rcases open_ints Tryz.underlying22 Tryz.underlying3 KA hf with⟨hcs,_⟩|⟨x,l,c,zs,hcs,_,hl,hm,hz,_,hcell,Ga⟩
  ·simp[Value.cells]at hcs;obtain⟨rfl,rfl,rfl⟩:=hcs;exact .inl rfl
  ·simp[Value.cells]at hcs;obtain⟨rfl,rfl,rfl⟩:=hcs;simp only[if_true]at hz;refine .inr ⟨x,_,_,zs.take Pn,rfl,?_,hl,fun i hi=>?_,fun z h=>?_⟩
   ·rw[dD];omega
   ·rw[dD]at hi;have h:=hcell i aa;rw[bX,List.getElem?_take,ak aa,←bX];exact h
   ·exact wf_i64 (Ga z (uT h))
 have aie:laidMet eP vE W:=by
  rw[MakeChecks.laidMetH_plain _ _ _ (by kernel_rfl)]at zo;exact zo
 clear OE BU;obtain⟨t0,t1,t4⟩:=aqN hsh aie;have hn:5≤W.heap.size:=by
  obtain⟨cs,t,h⟩:=Oy hsh 4 ag;have:=(wz.1 h).1;omega
 refine(aos hn t0 t1 t4 an1 hs aiz).mono fun e W' ⟨he,DU⟩=>?_
 subst he;have s1:DataW.Trod enc eP W' 0 (fun b=>decide (b<W.heap.size)) true 35 (.slice a1 Po Ky) d1 p1:=by
  obtain⟨fuel,hf⟩:=h1;obtain⟨n,hn'⟩:=aqD Ip Sk (by rw[KB];decide) DU hf;exact⟨n,hn'⟩
 exact⟨_,rfl,_,_,_,[],_,[],aif,trodAll_mk1 (shut_bool Tryz.underlying4 _),trodAll_mk3 (aiY Tryz.underlying22 Tryz.underlying3 KA DU k0) s1 (shut_bool Tryz.underlying4 _),rfl,DU.frame _,fun h=>by cases h⟩
open Go
theorem ai5:(Rows.treeLocatesRow.wf (OpenSpec.ofChange Rows.treeLocatesSpec))=true:=by kernel_rfl
theorem aje:(mapsRowed Tryz.prog)=true:=by kernel_rfl
theorem ajp:(Tryz.f4.params.all (Tryz.prog.readableRec ·))=true:=by kernel_rfl
theorem ajs:(namedTie Tryz.prog Rows.treeLocatesRow.named Rows.treeLocatesSpec.vars)=true:=by kernel_rfl
theorem ajt:((Rows.treeLocatesRow.stops==[]))=true:=by kernel_rfl
theorem aju:((Tryz.prog.stops==[]))=true:=by kernel_rfl
theorem ajv:((Rows.treeLocatesRow.knobs==[]))=true:=by kernel_rfl
theorem ajw:((Tryz.prog.stopKnobs==[]))=true:=by kernel_rfl
theorem ajx:((Rows.treeLocatesRow.inPlace==Tryz.prog.inPlace 4))=true:=by kernel_rfl
theorem ai6:((Rows.treeLocatesRow.unfollowed==Tryz.prog.unfollowed 4))=true:=by kernel_rfl
theorem ai7:((Rows.treeLocatesRow.recurses==Tryz.prog.recurses 4))=true:=by kernel_rfl
theorem ai8:((Rows.treeLocatesRow.named==Tryz.prog.varsNamed 4))=true:=by kernel_rfl
theorem ai9:((Rows.treeLocatesRow.maps==(Tryz.f4.params.toList++Rows.treeLocatesSpec.plain.varTypes Tryz.prog).any (Tryz.prog.mapsRec ·)))=true:=by kernel_rfl
theorem ai_:((Rows.treeLocatesRow.ifaces==(Tryz.f4.params.toList++Rows.treeLocatesSpec.plain.varTypes Tryz.prog).any (Tryz.prog.ifacesRec ·)))=true:=by kernel_rfl
theorem ai':((Rows.treeLocatesRow.mapsOut==Tryz.prog.mapsAmong Tryz.f4.resultTypes.toList))=true:=by kernel_rfl
theorem aja:((Rows.treeLocatesRow.loops==(Tryz.f4.params.toList++Rows.treeLocatesSpec.plain.varTypes Tryz.prog).any (Tryz.prog.loopsFrom ·)))=true:=by kernel_rfl
theorem ajb:((Rows.treeLocatesRow.wideKeys==(Tryz.f4.params.toList++Rows.treeLocatesSpec.plain.varTypes Tryz.prog++Tryz.f4.resultTypes.toList).any (Tryz.prog.wideKeysFrom ·)))=true:=by kernel_rfl
theorem ajc:(Rows.treeLocatesSpec.vars.all (Tryz.prog.varReadable ·))=true:=by kernel_rfl
theorem ajd:(Tryz.f4.resultTypes.all (fun t=>Tryz.prog.readableRec t&&decide (t<Tryz.prog.types.size)))=true:=by kernel_rfl
theorem ajf:((Rows.treeLocatesRow.ifacesOut==Tryz.f4.resultTypes.toList.any (Tryz.prog.ifacesRec ·)))=true:=by kernel_rfl
theorem ajg:((Rows.treeLocatesRow.loopsOut==Tryz.f4.resultTypes.toList.any (Tryz.prog.loopsFrom ·)))=true:=by kernel_rfl
theorem ajh:((Rows.treeLocatesRow.plainKeys==Tryz.prog.plainKeys))=true:=by kernel_rfl
theorem aji:(Rows.treeLocatesRow.shortTexts.isNone)=true:=by kernel_rfl
theorem ajj:(Tryz.prog.stopsHeard)=true:=by kernel_rfl
theorem ajk:(Tryz.prog.mayEnter)=true:=by kernel_rfl
theorem ajl:((Rows.treeLocatesRow.lifted==Tryz.prog.liftsFinal))=true:=by kernel_rfl
theorem ajm:((Tryz.prog.make==some Rows.treeLocatesRow.make))=true:=by kernel_rfl
theorem ajn:((Rows.treeLocatesRow.kinds==(if Rows.treeLocatesRow.domain.isEmpty then []else Tryz.f4.params.toList.map fun t=>match Tryz.prog.underlying t with|some (.int k)=>some k|_=>none)))=true:=by kernel_rfl
theorem ajo:((Rows.treeLocatesRow.pinned==Rows.treeLocatesRow.pinnedBy))=true:=by kernel_rfl
theorem ajq:((Rows.treeLocatesRow.veiled==(Tryz.f4.params.toList++Rows.treeLocatesSpec.plain.varTypes Tryz.prog++Tryz.f4.resultTypes.toList).any (Tryz.prog.veiledRec ·)))=true:=by kernel_rfl
theorem ajr:(Rows.treeLocatesRow.veiledFits Tryz.prog Tryz.f4.params.toList (Tryz.f4.params.toList++Rows.treeLocatesSpec.plain.varTypes Tryz.prog++Tryz.f4.resultTypes.toList))=true:=by kernel_rfl
def x5(a n:Nat):Bool:=Nat.rec (motive:=fun _=>Bool) true (fun k ih=>and (rowFine Tryz.prog (a+k)) ih) n
theorem CE{a:Nat}:∀ {n:Nat},x5 a n=true→∀t,a≤t→t<a+n→rowFine Tryz.prog t=true:=by
 intro n;induction n with
 |zero=>intro _ t h1 h2;omega
 |succ n ih=>
  intro h t h1 h2;have h':and (rowFine Tryz.prog (a+n)) (x5 a n)=true:=h;rw[Bool.and_eq_true]at h';by_cases e:t=a+n
  ·subst e;exact h'.1
  ·exact ih h'.2 t h1 (by omega)
theorem anD:Tryz.prog.types.size=529:=by kernel_rfl
theorem ag6:x5 0 133=true:=by kernel_rfl
theorem ag7:x5 133 133=true:=by kernel_rfl
theorem ag8:x5 266 133=true:=by kernel_rfl
theorem ag9:x5 399 133=true:=by kernel_rfl
theorem ag':Tryz.prog.globals.all (fun g=>decide (g.type<Tryz.prog.types.size))=true:=by kernel_rfl
theorem ag_:Tryz.prog.funcs.all (fun f=>f.params.all fun t=>decide (t<Tryz.prog.types.size))=true:=by kernel_rfl
theorem laidOut:laidOutB Tryz.prog=true:=by
 unfold laidOutB;rw[ag',ag_,Bool.and_true,Bool.and_true,List.all_eq_true];intro t ht;rw[List.mem_range,anD]at ht;rcases Nat.lt_or_ge t 133 with h|h
 ·exact CE ag6 t (by omega) (by omega)
 rcases Nat.lt_or_ge t 266 with h|h
 ·exact CE ag7 t (by omega) (by omega)
 rcases Nat.lt_or_ge t 399 with h|h
 ·exact CE ag8 t (by omega) (by omega)
 ·exact CE ag9 t (by omega) (by omega)
theorem P3:Tryz.prog.funcs.any Func.goes=false:=by kernel_rfl
theorem ant(g:Nat):(Tryz.prog.funcs[g]?).any Func.goes=false:=by
 cases h:Tryz.prog.funcs[g]? with
 |none=>rfl
 |some fn=>
  have h1:=Array.any_eq_false.1 P3;obtain⟨hg,rfl⟩:=Array.getElem?_eq_some_iff.1 h;have h2:=h1 g hg;simpa using h2
theorem ahM(f:FuncId):Tryz.prog.goes f=false:=by
 unfold Program.goes;rw[P3,Bool.and_false,Bool.or_false,List.any_eq_false];intro g _;rw[ant];decide
theorem apu:Tryz.pinned.checked.prog.funcNamed Rows.treeLocatesRow.func=some 4:=by kernel_rfl
theorem apt:Tryz.f4.isInstance Tryz.pinned.checked.prog Rows.treeLocatesRow.origin Rows.treeLocatesRow.targs:=of_decide_eq_true (by kernel_rfl)
theorem apx:Tryz.f4.isWrapper Tryz.pinned.checked.prog Rows.treeLocatesRow.wrapper Rows.treeLocatesRow.mainSum:=by
 unfold Func.isWrapper
 first|(rw[if_pos (by decide+kernel)];kernel_rfl)|(rw[if_neg (by decide+kernel)];exact⟨rfl,rfl⟩)
theorem Th{b0 b1 b2 JH JK JL JM JN JO JP Jn Jo Jp Jq Jr Js Jt Ju Jv Jw Jx Jy Jz JA JB JC JD JE JF JG JI JJ:Bool}(h0:b0=true)(h1:b1=true)(h2:b2=true)(h3:JH=true)(h4:JK=true)(h5:JL=true)(h6:JM=true)(h7:JN=true)(h8:JO=true)(h9:JP=true)(h10:Jn=true)(h11:Jo=true)(h12:Jp=true)(ahV:Jq=true)(ahW:Jr=true)(ahX:Js=true)(ahY:Jt=true)(ahZ:Ju=true)(ah0:Jv=true)(ah1:Jw=true)(ah2:Jx=true)(ah3:Jy=true)(ah4:Jz=true)(h23:JA=true)(ah5:JB=true)(ah6:JC=true)(ah7:JD=true)(ah8:JE=true)(ah9:JF=true)(ah_:JG=true)(ah':JI=true)(aia:JJ=true):(b0&&b1&&b2&&JH&&JK&&JL&&JM&&JN&&JO&&JP&&Jn&&Jo&&Jp&&Jq&&Jr&&Js&&Jt&&Ju&&Jv&&Jw&&Jx&&Jy&&Jz&&JA&&JB&&JC&&JD&&JE&&JF&&JG&&JI&&JJ)=true:=by
 subst h0 h1 h2 h3 h4 h5 h6 h7 h8 h9 h10 h11 h12 ahV ahW ahX ahY ahZ ah0 ah1 ah2 ah3 ah4 h23 ah5 ah6 ah7 ah8 ah9 ah_ ah' aia;rfl
set_option maxRecDepth 100000 in
theorem aps:joinedFacts Tryz.prog 4 Tryz.f4 Rows.treeLocatesSpec Rows.treeLocatesRow=true:=
 Th ai5 laidOut aje ajp ajs ajt aju ajv ajw ajx ai6 ai7 ai8 ai9 ai_ ai' aja ajb ajc ajd ajf ajg ajh aji ajj ajk ajl ajm ajn ajo ajq ajr
theorem Uh:Rows.treeLocatesRow.wfByText (OpenSpec.ofChange Rows.treeLocatesSpec)=true:=by kernel_rfl
theorem Ue:Tryz.pinned.checked.prog.mainIs=some (true,"4c8dd576b03dcf5da98673c7924642f499d014415c0c6d845c2075c951f41aec".toList):=by kernel_rfl
theorem Uf:Tryz.prog.funcNamed "sosopt/sosoptlaw40.TreeLocates"=some 4:=by kernel_rfl
theorem Uc:false=Tryz.pinned.checked.prog.looks []:=by kernel_rfl
theorem Ug:([22,35,4].all fun u=> !Tryz.prog.wantsStandIn u)=true:=by kernel_rfl
theorem Ud:∀f fn,Tryz.pinned.checked.prog.funcNamed Rows.treeLocatesRow.func=some f→Tryz.pinned.checked.prog.funcs[f]? =some fn→false=Tryz.pinned.checked.prog.looks []∧∀(j:Nat) t,fn.params[j]? =some t→Tryz.pinned.checked.prog.wantsStandIn t=false:=by
 intro f fn hf hfn;obtain rfl:f=4:=Option.some.inj (Uf.symm.trans hf)|>.symm;obtain rfl:fn=Tryz.f4:=(Option.some.inj (Tryz.func4.symm.trans hfn)).symm;refine⟨Uc,fun j t ht=>?_⟩;rw[Tryz.params4]at ht;have hm:t∈[22,35,4]:=by simpa using Array.mem_of_getElem? ht
 show Tryz.prog.wantsStandIn t=false;simpa using List.all_eq_true.1 Ug t hm
theorem Tj(o:Option FuncId):(o.any Tryz.prog.goes||false)=false:=by
 cases o with
 |none=>rfl
 |some f=>rw[Option.any_some,ahM];rfl
theorem Ub:false=Rows.treeLocatesRow.goesBy Tryz.pinned.checked.prog:=(Tj (Tryz.prog.funcNamed Rows.treeLocatesRow.func)).symm
theorem treeLocates_holds:Rows.treeLocatesRow.holds Tryz.pinned (OpenSpec.ofChange Rows.treeLocatesSpec):=
 OpenClaim.holds_of_wide 4 Tryz.f4 rfl rfl rfl rfl rfl rfl rfl ⟨rfl,rfl,rfl,rfl,rfl⟩ rfl rfl rfl rfl rfl apu Tryz.func4 aps apt apx
  (fun os started H enc _=>lifted os started H enc)
theorem card_holds:Rows.TreeLocatesCardSaid:=
 Claim7.holds_tied_plain_at .later [] [.data,.data,.data] true (true,"4c8dd576b03dcf5da98673c7924642f499d014415c0c6d845c2075c951f41aec") false
  treeLocates_holds (fun _ h=>by cases h) Uh (fun _ h=>by cases h) treeLocates_row_tie rfl ⟨rfl,rfl⟩ Ue rfl Ud Ub
end Go.Proofs.YtddhncjmaahodaaGreatDoor
