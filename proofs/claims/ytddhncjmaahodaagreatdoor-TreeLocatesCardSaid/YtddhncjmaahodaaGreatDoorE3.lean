/- Towards the law TreeLocates: lemmas on the evaluator of the model's code, plain laws of numbers, walks of the program's functions, the card. No conditions. -/
import Derived.Test.YtddhncjmaahodaaGreatDoorE2
set_option linter.all false
noncomputable section
open Bool renaming false_eq_true→ie,false_ne_true→tA,not_false→iY,not_true→gG
open Classical renaming byContradiction→oa
open Go.IntKind renaming bits→p4,signed→p5,wrap→r8
open Int renaming natAbs_mul→oS,natAbs_natCast→dB,natAbs_neg→mZ,natCast_mul→fU,natCast_nonneg→uR,natCast_zero→jT,ofNat_lt→m0,tdiv→mg,tmod→m3,toNat_natCast→bJ
open List renaming all_eq_true→sg,append_assoc→eJ,append_nil→fG,cons_append→eS,drop_eq_getElem_cons→lI,drop_left→uS,drop_of_length_le→jB,eq_nil_of_length_eq_zero→oT,getD_eq_getElem?_getD→bX,getElem?_append_left→lJ,getElem?_append_right→q4,getElem?_drop→q5,getElem?_eq_getElem→cn,getElem?_eq_none→kO,getElem?_eq_some_iff→fN,getElem?_map→iy,getElem?_range→wG,length_append→aS,length_cons→cL,length_drop→gZ,length_map→g5,length_nil→kP,length_replicate→wJ,length_singleton→gH,length_take_of_le→g6,length_take→dD,length→ku,mem_append→gI,mem_cons→g7,mem_map→k_,mem_of_getElem?→eT,mem_of_mem_take→uT,mem_singleton→dj,nil_append→eI,range→oW,replicate_succ→p7,replicate_zero→p8,replicate→aX,take_append_drop→p9,take_append_of_le_length→yM,take_left'→sk,take_left→p_,take_of_length_le→b_,take_succ_eq_append_getElem→kQ,take_zero→q6
open Nat renaming add_comm→i_,add_mul→cF,add_sub_cancel→qb,add_zero→cE,beq_refl→sn,beq→bn,ble→bM,div_add_mod→jm,div_div_eq_div_mul→oX,div_eq_of_lt→m4,div_le_self→jn,div_lt_iff_lt_mul→q8,div_one→qc,dvd_trans→tF,gcd_comm→qd,gcd→cx,le_add_right→sq,le_of_ble_eq_true→mh,le_of_lt→g8,le_of_not_lt→jC,le_refl→aE,le_succ→sr,le_trans→cy,lt_of_le_of_lt→eY,lt_of_lt_of_le→eG,lt_of_mul_lt_mul_right→tH,lt_of_not_le→tI,lt_or_ge→mj,lt_succ_self→mm,lt_trans→qe,min_eq_left→m5,mod_eq_of_lt→jV,mod_lt→eU,mul_add→bD,mul_assoc→bT,mul_comm→bK,mul_div_cancel→uW,mul_le_mul_left→fy,mul_le_mul_right→dn,mul_le_mul→j_,mul_left_comm→mo,mul_lt_mul_of_pos_right→od,mul_mod_mul_right→su,mul_ne_zero→uX,mul_one→dF,mul_zero→fc,mul→dQ,one_mul→ga,pos_of_ne_zero→ld,pow_add→gw,pow_le_pow_left→wN,pow_le_pow_right→gl,pow_pos→fl,pow_succ→cQ,pow_zero→nK,reduceEqDiff→kR,sub_self→m6,succ_mul→oe,succ_ne_zero→uY,succ_pos→lf,zero_add→dK,zero_le→bQ,zero_mul→jb
open Option renaming isSome→q9
open Rat renaming divInt_ofNat→u5,divInt→nL
open UInt8 renaming ofNat→gJ,toNat_inj→wT
namespace Go.Proofs.YtddhncjmaahodaaGreatDoor
open Go.au Go.aF
variable{a:Nat}{h:Nat}
theorem Ql{y:Nat}(i:h≤63)(d:a*2^h<18446744073709551616)(g:y<18446744073709551616):a*2^h|||y/2^(64-h)=a*2^h+y/2^(64-h)∧a*2^h+y/2^(64-h)<18446744073709551616:=by
 have c:=Fw (s:=64-h) (d:=y) aa g;rw[(aa:64-(64-h)=h)]at c;refine⟨?_,?_⟩
 ·rw[←Nat.shiftLeft_eq a h,←Nat.shiftLeft_add_eq_or_of_lt c]
 ·have b:=sZ (s:=h) aa;have e:a+1≤2^(64-h):=by
   rw[b]at d;exact tH d
  have f:=dn (2^h) e;rw[←b,cF,ga]at f;omega
variable{u:Nat}{L:Nat}
theorem aio{B X c:Nat}(d:B≤a)(e:a=X*h+L)(g:L<X)(f:B=X*u+c):u≤h:=by
 refine jC fun b=>?_
 have:=fy X (show h+1≤u from b);rw[bD,dF]at this;omega
variable{d:List Nat}
theorem Ox(h:d.length≤a):d.getD a 0=0:=by rw[bX,kO h];rfl
theorem ap3(A B:Nat)(O:B≤A)(N:2≤(aq B).length)(la:(aq A).length<1000000)(H:af):c7 249 [bl (aq A),bl (aq B)] H fun v L=>AI A B v∧L=H:=by
 refine pJ (.cons (dr _) (.cons (dr _) .nil)) (fk.mono (Q:=fun v _=>AI A B v) (fun v L h=>⟨v,.same v,?_,h⟩) ?_) H
 ·obtain⟨E,G,I,J,y,rfl,_⟩:=h;exact .agg (.cons (.int _ _) (.cons (.int _ _) (.cons (.int _ _) (.cons (.int _ _) (.cons (.bool _) .nil)))))
 have p:(aq B).length≤(aq A).length:=lP O;have M:A≠0:=fun e=>by
  rw[e,jY]at p;simp only[kP]at p;omega
 have ap:=C2 A M;have z:=gp A;have C:=gp B;have ca:=gi A;have cb:=gi B;have am:(aq B).length=(aq A).length→(aq B).getD ((aq A).length-1) 0≤(aq A).getD ((aq A).length-1) 0:=fun e=>by
  have a9:B≠0:=fun e=>by rw[e,jY]at N;simp at N
  obtain⟨r,e1,e2⟩:=mV A M;obtain⟨r',f1,f2⟩:=mV B a9;rw[e]at f1 f2;generalize(aq A).getD ((aq A).length-1) 0=t at*
  generalize(aq B).getD ((aq A).length-1) 0=t' at*
  generalize(18446744073709551616:Nat)^((aq A).length-1)=P at*
  refine jC fun b0=>?_
  have:=dn P (show t+1≤t' from b0);rw[cF,ga]at this;omega
 obtain⟨n,bE⟩:∃n,n=(aq A).length:=⟨_,rfl⟩;generalize aq A=a at*
 generalize aq B=b at*
 rw[←bE]at p ap am la;have Y:2≤n:=aa;have T:=z.getD (n-1);have U:=z.getD (n-2);have c1:=C.getD (n-1);have V:=C.getD (n-2);obtain⟨g,R,j⟩:=zG ap T;have W:=zF _ T;obtain⟨s,hs⟩:∃s,s=64-eK (a.getD (n-1) 0):=⟨_,rfl⟩;rw[←hs]at g R j W;clear hs;obtain⟨α,k,ar⟩:=OL (l:=a) (n:=n) (s:=s) g Y aa z;obtain⟨β,l,cf⟩:=OL (l:=b) (n:=n) (s:=s) g Y aa C;rw[ca]at k;rw[cb]at l;have bc:=aio O k ar l;obtain⟨ab,c⟩:=Ql g j U;have a':1≤qx a n s:=cy (cy ag R) (sq _ _);have bb:a.getD (n-1) 0*2^s+a.getD (n-2) 0/2^(64-s)=qx a n s:=rfl;rw[bb]at ab c;have bi:aC .u64 ((s:Nat):Int)=(s:Int):=bW _ aa;have Z:dU s (gK .u64)=s:=kZ (aa:s≤64);have q:dU (64-s) (gK .u64)=64-s:=kZ (aa:64-s≤64);have m:aC .u64 ((64:Int)-(s:Int))=((64-s:Nat):Int):=by rw[bW _ aa];omega
 have i:aC .i64 ((n:Int)-1)=(n:Int)-1:=aH _ aa;have u:aC .i64 ((n:Int)-2)=(n:Int)-2:=aH _ aa;have w:((n:Int)-1).toNat=n-1:=aa;have x:((n:Int)-2).toNat=n-2:=aa;have b1:((a.getD (n-1) 0:Nat):Int)*((2^s:Nat):Int)=((a.getD (n-1) 0*2^s:Nat):Int):=by rw[fU]
 have cd:aC .u64 ((a.getD (n-1) 0*2^s:Nat):Int)=((a.getD (n-1) 0*2^s:Nat):Int):=bW _ aa;have bj:a.getD (n-2) 0/2^(64-s)<18446744073709551616:=eY (jn _ _) U;have ac:=xU (x:=a.getD (n-1) 0*2^s) (y:=a.getD (n-2) 0/2^(64-s)) ⟨j,bj⟩;rw[ab]at ac;have D:∀F:Fr,rd 7 F=ay (qx a n s:Nat)→rd 8 F=ay (qx b n s:Nat)→rd 4 F=.ptr 5 0→∀H,H.next=6→H.get 5=.cells [ay 0,ay 0,ay 0,ay 0,aD] 0→bx (pc 249 10) (gk [gy.cell 4 true 5] fun v _=>AI A B v) F H:=by
  intro F f7 f8 f4 H X bs;simp(disch:=omega)only[go_sem,aai,aau,aat,aas,X];refine ap4 (qx a n s) (qx b n s) c bc a' _ _ _ 6 ?_ ?_ ?_ ?_ ?_ ?_ ?_
  iterate 5 simp only[go_sem,f7,f8]
  ·simp only[go_sem];rfl
  intro F' K E G u2 I J v2 f t y d b' cM g4 Q;have a7:rd 4 F'=.ptr 5 0:=g4.trans (by simp only[go_sem,f4]);have aw:K.get 6=.cells (jP E G I J y) 0:=Q.at;have ch:K.get 5=.cells [ay 0,ay 0,ay 0,ay 0,aD] 0:=by
   rw[Q.get,aj ag];simp only[go_sem,X,bs]
  unfold jP at aw;rw[fA];simp(disch:=omega)only[go_sem,aar,cM,a7,aw,ch];exact⟨E,G,I,J,y,rfl,b',(B9 d c).1,(B9 d c).2.2,(B9 d c).2.1,fun h0=>⟨(by rcases d.ph with h|h<;>omega),d.pair h0 k ar l cf⟩⟩
 refine aT akI ?_;simp(disch:=omega)only[go_sem,d249,aam,aal,←bE,i,gN,w,dw];refine use W ?_;simp(disch:=omega)only[go_sem,aak,aaj,i,u,gN,w,x,dw,bi,Z,q,m,b1,cd,mS,ac];by_cases bv:b.length=n
 ·have S:b.getD (n-1) 0*2^s<18446744073709551616:=eY (dn _ (am bv)) j;obtain⟨ae,c0⟩:=Ql g S V;have ba:b.getD (n-1) 0*2^s+b.getD (n-2) 0/2^(64-s)=qx b n s:=rfl;rw[ba]at ae;have b2:((b.getD (n-1) 0:Nat):Int)*((2^s:Nat):Int)=((b.getD (n-1) 0*2^s:Nat):Int):=by rw[fU]
  have ce:aC .u64 ((b.getD (n-1) 0*2^s:Nat):Int)=((b.getD (n-1) 0*2^s:Nat):Int):=bW _ aa;have bo:b.getD (n-2) 0/2^(64-s)<18446744073709551616:=eY (jn _ _) V;have ad:=xU (x:=b.getD (n-1) 0*2^s) (y:=b.getD (n-2) 0/2^(64-s)) ⟨S,bo⟩;rw[ae]at ad;simp(disch:=omega)only[go_sem,EL,dt,i,u,gN,w,x,dw,Z,q,m,b2,ce,mS,ad];refine D _ ?_ ?_ ?_ _ ?_ ?_
  iterate 5 simp only[go_sem]
 ·have bd:b.getD (n-1) 0=0:=Ox aa;have o:qx b n s=b.getD (n-2) 0/2^(64-s):=by unfold qx;rw[bd,jb,dK]
  by_cases c2:b.length=n-1
  ·simp(disch:=omega)only[go_sem,EL,dt,df,i,u,gN,x,dw,q,m,mS];refine D _ ?_ ?_ ?_ _ ?_ ?_
   iterate 5 simp only[go_sem,o]
  ·have be:b.getD (n-2) 0=0:=Ox aa;rw[be,Nat.zero_div]at o;simp(disch:=omega)only[go_sem,EL,df,i];refine D _ ?_ ?_ ?_ _ ?_ ?_
   ·simp only[go_sem]
   ·simp only[go_sem,o];rfl
   iterate 3 simp only[go_sem]
theorem am2(x y c:Nat)(b:x<18446744073709551616)(d:y<18446744073709551616)(h:c<18446744073709551616):aW 311 [ay (x:Int),ay (y:Int),ay (c:Int)] (.az [ay (((x*y+c)%18446744073709551616:Nat):Int),ay (((x*y+c)/18446744073709551616:Nat):Int)]):=by
 refine cO (.cons (.int _ _) (.cons (.int _ _) (.cons (.int _ _) .nil))) (.az (.cons (.int _ _) (.cons (.int _ _) .nil))) (aT ak5 ?_);have i:=xS b d;have f:=Ce x y b d;generalize x*y=p at*
 have a:=u6 (a:=p%18446744073709551616) (b:=c) (c:=0) aa;rw[cE,jT]at a;have e:(p%18446744073709551616+c)%18446744073709551616=(p+c)%18446744073709551616:=aa;rw[e]at a;have g:aC .u64 (((p/18446744073709551616:Nat):Int)+(((p%18446744073709551616+c)/18446744073709551616:Nat):Int))=(((p+c)/18446744073709551616:Nat):Int):=by rw[bW _ aa];omega
 simp(disch:=omega)only[go_sem,d311,ab'];refine use f ?_;simp(disch:=omega)only[go_sem,ab_,ab9,a,g]
theorem Cd{P X b x:Nat}(d:a+P*h=X*u)(c:L+18446744073709551616*b=x*u+h):a+P*L+P*18446744073709551616*b=(X+P*x)*u:=by
 have e:=congrArg (P* ·) c;simp only[bD,←bT]at e;rw[cF];omega
variable{c:af}{b:List V}
theorem cI.other{b' g':Nat}{cs':List V}(d:cI c a h b)(k:a≠b')(l:a≠g')(m:h≠b')(n:h≠g'):cI (af.wr c b' g' cs') a h b:=by
 have g:∀y,y≠b'→y≠g'→(af.wr c b' g' cs').get y=c.get y:=fun y i j=>by
  unfold af.wr;rw[af.aK,aj (fun e=>j e.symm),af.aK,aj (fun e=>i e.symm)]
 obtain⟨f,o,p⟩:=d.bB;exact⟨by rw[g _ k l];exact d.row,⟨f,by rw[g _ m n];exact o,p⟩,d.ne⟩
theorem cI.written(e:cI c a h b)(d:List V):cI (af.wr c a h d) a h d:=((mq.refl e).wr d).mJ
theorem nU(d:u≠a)(f:u≠h):(af.wr c a h b).get u=c.get u:=by
 unfold af.wr;rw[af.aK,aj (fun e=>f e.symm),af.aK,aj (fun e=>d e.symm)]
structure AD (b g b' g' n:Nat):Prop where
 h1:b≠b'
 h2:b≠g'
 h3:g≠b'
 h4:g≠g'
 lb:b<n
 mJ:g<n
 lb':b'<n
 xL:g'<n
structure uP (II IK:List Nat) (i bu u1 v0 v1:Nat) (ji:Bool) (ad bd:List Nat) (Kn Ko Kp Kq D5 ln:Nat):Prop where
 la:ad.length=i
 lb:bd.length=i
 GR:W.aA ad
 zQ:W.aA bd
 hP:Kn<18446744073709551616
 hQ:Ko<18446744073709551616
 hR:Kp<18446744073709551616
 hT:Kq<18446744073709551616
 OH:D5≤1
 OM:ln≤1
 eq:∃Dt Dx Dy Dz,Dt+18446744073709551616^i*Kn=W.val (II.take i)*bu∧Dx+18446744073709551616^i*Ko=W.val (IK.take i)*v0∧Dy+18446744073709551616^i*Kp=W.val (IK.take i)*v1∧Dz+18446744073709551616^i*Kq=W.val (II.take i)*u1∧
  (ji=false→Dx+18446744073709551616^i*D5=W.val ad+Dt∧Dz+18446744073709551616^i*ln=W.val bd+Dy)∧(ji=true→Dt+18446744073709551616^i*D5=W.val ad+Dx∧Dy+18446744073709551616^i*ln=W.val bd+Dz)
theorem sub_eq{P c d b f x y:Nat}(g:u+P*c=x)(i:L+P*d=y)(j:y=x+a)(k:L+P*b=f+u)(l:a<P)(m:f<P):f=a:=by
 have e:a+P*(c+b)=f+P*d:=by rw[bD];omega
 rcases Nat.lt_trichotomy (c+b) d with h|h|h
 ·have:=fy P (show c+b+1≤d from h);rw[bD,dF]at this;omega
 ·rw[h]at e;omega
 ·have:=fy P (show d+1≤c+b from h);rw[bD,dF]at this;omega
variable{p:Bool}
theorem uP.done{t:List Nat}{f:Nat}{v w:List Nat}{y z C D x J A B b g:Nat}(c:uP d t a h u L f p v w y z C D x J)(G:W.val (d.take a)=A)(H:W.val (t.take a)=B)(P:A<18446744073709551616^a)(e:tC A B h u L f p b g)(I:1≤f):W.val v=b∧W.val w=g:=by
 obtain⟨K,M,N,O,i,j,k,l,E,F⟩:=c.eq;have Q:b≤A:=by
  have:=e.ba;have S:b≤f*b:=by rw[bK];exact rJ I
  omega
 have R:g≤b:=e.le;have r:=W.gS c.GR;have s:=W.gS c.zQ;rw[c.la]at r;rw[c.lb]at s;rw[G]at i l;rw[H]at j k;cases p with
 |false=>
  obtain⟨m,n⟩:=e.ev rfl;obtain⟨o,q⟩:=E rfl;refine⟨sub_eq i j ?_ o aa r,sub_eq k l ?_ q aa s⟩
  ·rw[bK B,bK A];exact m
  ·rw[bK B,bK A];exact n
 |true=>
  obtain⟨m,n⟩:=e.GS rfl;obtain⟨o,q⟩:=F rfl;refine⟨sub_eq j i ?_ o aa r,sub_eq l k ?_ q aa s⟩
  ·rw[bK B,bK A];exact m
  ·rw[bK B,bK A];exact n
theorem uP.step{f:List Nat}{A:Nat}{g i:List Nat}{B C D E m z x y l q r t n s v w j k c e:Nat}(b:uP d f a h u L A p g i B C D E m z)(hi:a<d.length)(I:a<f.length)(J:d.getD a 0=x)(K:f.getD a 0=y)
 (al:l+18446744073709551616*n=x*h+B) (eQ:q+18446744073709551616*s=y*L+C) (ap:r+18446744073709551616*v=y*A+D) (ar:t+18446744073709551616*w=x*u+E) (T:n<18446744073709551616) (U:s<18446744073709551616) (V:v<18446744073709551616) (X:w<18446744073709551616) (Y:j≤1) (Z:k≤1) (k1:c<18446744073709551616) (k2:e<18446744073709551616)
 (H:p=false→q+18446744073709551616*j=c+l+m∧t+18446744073709551616*k=e+r+z) (M:p=true→l+18446744073709551616*j=c+q+m∧r+18446744073709551616*k=e+t+z):
 uP d f (a+1) h u L A p (g++[c]) (i++[e]) n s v w j k:=by
 obtain⟨P,Q,R,S,e1,e2,ad,ae,F,G⟩:=b.eq;have N:W.val (g++[c])=W.val g+18446744073709551616^a*c:=by rw[W.fF,b.la];simp[W.val]
 have O:W.val (i++[e])=W.val i+18446744073709551616^a*e:=by rw[W.fF,b.lb];simp[W.val]
 refine⟨by simp[b.la],by simp[b.lb],b.GR.app (.mk k1 W.aA.nil),b.zQ.app (.mk k2 W.aA.nil),T,U,V,X,Y,Z,P+18446744073709551616^a*l,Q+18446744073709551616^a*q,R+18446744073709551616^a*r,S+18446744073709551616^a*t,?_,?_,?_,?_,fun o=>?_,fun o=>?_⟩
 ·rw[kM hi,J,cQ];exact Cd e1 al
 ·rw[kM I,K,cQ];exact Cd e2 eQ
 ·rw[kM I,K,cQ];exact Cd ad ap
 ·rw[kM hi,J,cQ];exact Cd ae ar
 ·rw[N,O,cQ];exact⟨wX (F o).1 (H o).1,wX (F o).2 (H o).2⟩
 ·rw[N,O,cQ];exact⟨wX (G o).1 (M o).1,wX (G o).2 (M o).2⟩
theorem CW(c:a<18446744073709551616)(e:h<18446744073709551616)(b:u≤1):∃d z,d<18446744073709551616∧z≤1∧a+18446744073709551616*z=d+h+u∧dP [ay (a:Int),ay (h:Int),ay (u:Int)]=some (.val (.az [ay ((d:Nat):Int),ay ((z:Nat):Int)])):=
 ⟨_,_,eU _ ag,by split<;>omega,sub_one c e b,CX b⟩
theorem zJ(x y c:Nat)(a:x<18446744073709551616)(b:y<18446744073709551616)(e:c<18446744073709551616):∃d z,d<18446744073709551616∧z<18446744073709551616∧d+18446744073709551616*z=x*y+c∧aW 311 [ay (x:Int),ay (y:Int),ay (c:Int)] (.az [ay ((d:Nat):Int),ay ((z:Nat):Int)]):=by
 have f:=xS a b;exact⟨_,_,eU _ ag,aa,aa,am2 x y c a b e⟩
theorem Tu(b e:List Nat)(n G I J K:Nat)(N:Bool)(eQ:W.aA b)(e0:W.aA e)(fn:n≤b.length)(fp:n≤e.length)(hn:n<1000000)(l0:G<18446744073709551616)(l1:I<18446744073709551616)(et:J<18446744073709551616)(m1:K<18446744073709551616)(a o j u O:Nat)(F:Fr)(H:af)(R:X→Fr→af→Prop)(d8:cI H a o (aL b))(d9:cI H j u (aL e))(f:AD a o j u O)(hs:H.get O=.cells (jP G I J K N) 0)
 (e1:rd 1 F=.slice a 0 n (.grown 1)) (e2:rd 2 F=.slice j 0 n (.grown 1)) (dE:rd 3 F=.ptr O 0) (dT:rd 6 F=ay 0) (d0:rd 7 F=ay 0) (d2:rd 8 F=ay 0) (d3:rd 9 F=ay 0) (dp:rd 10 F=ay 0) (dq:rd 11 F=ay 0) (ds:rd 19 F=.slice a 0 n (.grown 1)) (dv:rd 20 F=ah (n:Int)) (dC:rd 21 F=ah 0)
 (d':∀F' P c l A B C D L M,uP b e n G I J K N c l A B C D L M→cI P a o (aL (c++b.drop n))→cI P j u (aL (l++e.drop n))→P.next=H.next→(∀y,y≠a→y≠o→y≠j→y≠u→P.get y=H.get y)→R (.exit 0) F' P):bx (.loop (pc 251 3)) R F H:=by
 refine bH (fun k m g=>∃(i:Nat) (c l:List Nat) (A B C D L M:Nat),k=n-i∧i≤n∧rd 1 m=.slice a 0 n (.grown 1)∧rd 2 m=.slice j 0 n (.grown 1)∧rd 3 m=.ptr O 0∧rd 6 m=ay (A:Int)∧rd 7 m=ay (B:Int)∧rd 8 m=ay (C:Int)∧rd 9 m=ay (D:Int)∧rd 10 m=ay (L:Int)∧rd 11 m=ay (M:Int)∧rd 19 m=.slice a 0 n (.grown 1)∧rd 20 m=ah (n:Int)∧rd 21 m=ah (i:Int)∧
  uP b e i G I J K N c l A B C D L M∧cI g a o (aL (c++b.drop i))∧cI g j u (aL (l++e.drop i))∧g.get O=.cells (jP G I J K N) 0∧g.next=H.next∧∀y,y≠a→y≠o→y≠j→y≠u→g.get y=H.get y) n
  ⟨0,[],[],0,0,0,0,0,0,rfl,bQ _,e1,e2,dE,dT,d0,d2,d3,dp,dq,ds,dv,dC,⟨rfl,rfl,W.aA.nil,W.aA.nil,ag,ag,ag,ag,ag,ag,0,0,0,0,by simp[W.val],by simp[W.val],by simp[W.val],by simp[W.val],fun _=>by simp[W.val],fun _=>by simp[W.val]⟩,d8,d9,hs,rfl,fun _ _ _ _ _=>rfl⟩ ?_
 rintro k m g ⟨i,c,l,A,B,C,D,L,M,rfl,hi,f1,Q,w,f6,f7,f8,f9,bv,b0,aw,ad,ae,s,S,T,z,a1,a0⟩;rw[aaw];by_cases fg:i<n
 ·have b':=s.la;have ca:=s.lb;have b1:=ry (l:=b) (i:=i) aa;have b2:=ry (l:=e) (i:=i) aa;have hx:=eQ.getD i;have hy:=e0.getD i;obtain⟨x,ex⟩:∃x,b.getD i 0=x:=⟨_,rfl⟩;obtain⟨y,ar⟩:∃x,e.getD i 0=x:=⟨_,rfl⟩;rw[ex]at b1 hx;rw[ar]at b2 hy;rw[b1]at S;rw[b2]at T;have ea:=qu (es:=b.drop (i+1)) (e:=x) b';have eb:=qu (es:=e.drop (i+1)) (e:=y) ca;have cb:i<(c++x::b.drop (i+1)).length:=by simp;omega
  have cd:i<(l++y::e.drop (i+1)).length:=by simp;omega
  have eh:iq false 1 [.ptr a i] g=some (ay (x:Int)):=by rw[sR S,dw cb,ea]
  have el:iq false 1 [.ptr j i] g=some (ay (y:Int)):=by rw[sR T,dw cd,eb]
  have ce:∀d:Nat,oL 1 [.ptr a i,ay (d:Int)] g=some (V.undef,af.wr g a o (aL (c++d::b.drop (i+1)))):=fun d=>by
   rw[ym S (by rw[eM];exact cb),kj,l9 b']
  have cf:∀d v:Nat,oL 1 [.ptr j i,ay (v:Int)] (af.wr g a o (aL (c++d::b.drop (i+1))))=some (V.undef,af.wr (af.wr g a o (aL (c++d::b.drop (i+1)))) j u (aL (l++v::e.drop (i+1)))):=fun d v=>by
   rw[ym (T.other f.h1.symm f.h3.symm f.h2.symm f.h4.symm) (by rw[eM];exact cd),kj,l9 ca]
  have next:∀d v:Nat,cI (af.wr (af.wr g a o (aL (c++d::b.drop (i+1)))) j u (aL (l++v::e.drop (i+1)))) a o (aL (c++[d]++b.drop (i+1)))∧cI (af.wr (af.wr g a o (aL (c++d::b.drop (i+1)))) j u (aL (l++v::e.drop (i+1)))) j u (aL (l++[v]++e.drop (i+1)))∧
   (af.wr (af.wr g a o (aL (c++d::b.drop (i+1)))) j u (aL (l++v::e.drop (i+1)))).get O=.cells (jP G I J K N) 0:=fun d v=>by
   have k1:=f.lb;have k2:=f.mJ;have bA:=f.lb';have ap:=f.xL;refine⟨?_,?_,?_⟩
   ·rw[eJ];exact(S.written _).other f.h1 f.h2 f.h3 f.h4
   ·rw[eJ];exact(T.other f.h1.symm f.h3.symm f.h2.symm f.h4.symm).written _
   ·rw[nU aa aa,nU aa aa];exact z
  obtain⟨p,bi,p1,p2,p3,e'⟩:=zJ x G A hx l0 s.hP;obtain⟨q,bj,q1,cs,c0,fa⟩:=zJ y J B hy et s.hQ;obtain⟨r,bo,r1,r2,c',fb⟩:=zJ y K C hy m1 s.hR;obtain⟨t,bs,t1,t2,t3,t4⟩:=zJ x I D hx l1 s.hT;unfold jP at z;simp(disch:=omega)only[go_sem,LZ,aav,Q,w,f6,aw,ad,ae,dt,b3,bJ,eh,el,z];refine use e' ?_;simp(disch:=omega)only[go_sem,w,f7,z];refine use fa ?_;simp(disch:=omega)only[go_sem,w,f8,z];refine use fb ?_;simp(disch:=omega)only[go_sem,w,f9,z];refine use t4 ?_;cases N with
  |false=>
   obtain⟨d1,bd,k1,k2,bA,ap⟩:=CW q1 p1 s.OH;obtain⟨E,be,j1,j2,a9,a'⟩:=CW t1 r1 s.OM;have a4:=s.step aa aa ex ar p3 c0 c' t3 p2 cs r2 t2 k2 j2 k1 j1 (fun _=>⟨bA,a9⟩) (fun h=>by cases h);obtain⟨n1,n2,bc⟩:=next d1 E
   have a2:=ce d1;have a3:=cf d1 E;simp(disch:=omega)only[go_sem,LY,f1,Q,w,bv,b0,ae,z,ap,a',b3,bJ,a2,a3,aH];refine⟨n-(i+1),aa,i+1,c++[d1],l++[E],bi,bj,bo,bs,bd,be,rfl,aa,?_,?_,?_,?_,?_,?_,?_,?_,?_,?_,?_,?_,a4,n1,n2,bc,a1,fun y U Y Z ab=>(nU Z ab).trans ((nU U Y).trans (a0 y U Y Z ab))⟩
   iterate 11 simp only[go_sem,f1,Q,w,aw,ad]
   ·simp only[go_sem];rfl
  |true=>
   obtain⟨d1,bd,k1,k2,bA,ap⟩:=CW p1 q1 s.OH;obtain⟨E,be,j1,j2,a9,a'⟩:=CW r1 t1 s.OM;have a4:=s.step aa aa ex ar p3 c0 c' t3 p2 cs r2 t2 k2 j2 k1 j1 (fun h=>by cases h) (fun _=>⟨bA,a9⟩);obtain⟨n1,n2,bc⟩:=next d1 E
   have a2:=ce d1;have a3:=cf d1 E;simp(disch:=omega)only[go_sem,LY,f1,Q,w,bv,b0,ae,z,ap,a',b3,bJ,a2,a3,aH];refine⟨n-(i+1),aa,i+1,c++[d1],l++[E],bi,bj,bo,bs,bd,be,rfl,aa,?_,?_,?_,?_,?_,?_,?_,?_,?_,?_,?_,?_,a4,n1,n2,bc,a1,fun y U Y Z ab=>(nU Z ab).trans ((nU U Y).trans (a0 y U Y Z ab))⟩
   iterate 11 simp only[go_sem,f1,Q,w,aw,ad]
   ·simp only[go_sem];rfl
 ·have ed:i=n:=aa;subst ed;simp(disch:=omega)only[go_sem,LZ,ad,ae,df];exact d' _ _ c l A B C D L M s S T a1 a0
theorem Tt(c d:List Nat)(n l m o a:Nat)(t:Bool)(A B x z:Nat)(G:W.aA c)(ar:W.aA d)(D:n≤c.length)(X:n≤d.length)(U:n<1000000)(C:W.val (c.take n)=A)(P:W.val (d.take n)=B)(Q:tC A B l m o a t x z)(Z:1≤a)(l0:l<18446744073709551616)(l1:m<18446744073709551616)(am:o<18446744073709551616)(m1:a<18446744073709551616)(i p j q:Nat)(H:af)(R:cI H i p (aL c))(S:cI H j q (aL d))(s:AD i p j q H.next):
 c7 251 [.agg (jP l m o a t),.slice i 0 n (.grown 1),.slice j 0 n (.grown 1)] H fun _ u=>∃e k,e.length=n∧k.length=n∧W.aA e∧W.aA k∧W.val e=x∧W.val k=z∧cI u i p (aL (e++c.drop n))∧cI u j q (aL (k++d.drop n))∧H.next≤u.next∧∀y,y<H.next→y≠i→y≠p→y≠j→y≠q→u.get y=H.get y:=by
 have O:A<18446744073709551616^n:=by
  have:=W.gS (G.take n);rw[g6 D,C]at this;exact this
 refine aT akJ ?_;simp(disch:=omega)only[go_sem,d251,aaA,aaz,aay,aax];have k1:=s.lb;have k2:=s.mJ;have bA:=s.lb';have ad:=s.xL;have w:∀ {y:Nat},y<H.next→(H.push (.cells (jP l m o a t) 0)).get y=H.get y:=fun{y} E=>by
  simp(disch:=omega)only[go_sem,aj]
 have F:∀ {b g:Nat}{v:List V},cI H b g v→b<H.next→g<H.next→cI (H.push (.cells (jP l m o a t) 0)) b g v:=fun{b g v} h M N=>by
  obtain⟨f,I,J⟩:=h.bB;exact⟨by rw[w M];exact h.row,⟨f,by rw[w N];exact I,J⟩,h.ne⟩
 refine Tu c d n l m o a t G ar D X U l0 l1 am m1 i p j q H.next _ _ _ (F R k1 k2) (F S bA ad) s ?_ ?_ ?_ ?_ ?_ ?_ ?_ ?_ ?_ ?_ ?_ ?_ ?_ ?_
 iterate 13 simp only[go_sem]
 intro F' H' e k a8 a9 a' ba a7 ln r K L Y T;obtain⟨r1,r2⟩:=r.done C P O Q Z;simp only[go_sem];exact⟨e,k,r.la,r.lb,r.GR,r.zQ,r1,r2,K,L,by rw[Y];exact sr _,fun y E w1 w2 w3 a4=>(T y w1 w2 w3 a4).trans (w E)⟩
theorem cI.keep{H':af}(d:cI c a h b)(e:H'.get a=c.get a)(g:H'.get h=c.get h):cI H' a h b:=by
 obtain⟨f,i,j⟩:=d.bB;exact⟨e.trans d.row,⟨f,g.trans i,j⟩,d.ne⟩
variable{m:Fr}{i:Option Nat}{e:Fr→af→Prop}
theorem ND{l:List Nat}(o:cI c a h (aL d))(p:d.take u=l)(C:l.length=u)(J:u<1000000)(v:a<c.next)(z:h<c.next)(x:Nat)
 (A:∀b,cI b (c.next+1) h (aL (l++[x]))→(∀y,y<c.next→y≠h→b.get y=c.get y)→b.next=c.next+2→e (put m i (.slice (c.next+1) 0 (u+1) (.grown 1))) b):
 gj i e m (fH 1 8 [.slice a 0 u (.grown 1),.slice c.next 0 1 (.known 1)] (c.push (.cells [ay (x:Int)] 0))):=by
 obtain⟨H1,g⟩:∃H1,H1=c.push (.cells [ay (x:Int)] 0):=⟨_,rfl⟩;have k:∀y,y<c.next→H1.get y=c.get y:=fun y q=>by rw[g,af.bf,aj aa]
 have D:H1.get c.next=.cells [ay (x:Int)] 0:=by rw[g,af.bf,ak rfl]
 have j:cI H1 a h (aL d):=o.keep (k a v) (k h z);have n:H1.next=c.next+1:=by rw[g];rfl
 rw[←g];have B:H1.cS a 0 (u*1)=some (aL l):=by
  rw[dF,j.cS (by
   have:=congrArg ku p;rw[dD,C]at this;omega),p]
 have w:dS H1 1 1 (.slice c.next 0 1 (.known 1))=some [ay (x:Int)]:=by
  show H1.cS c.next 0 (1*1)=_
  rw[fJ D,c_];rfl
 obtain⟨f,G,K⟩:=j.bB;have t:fH 1 8 [.slice a 0 u (.grown 1),.slice c.next 0 1 (.known 1)] H1=some (.slice H1.next 0 (u+1) (.grown 1),(H1.push (.cells (aL l++[ay (x:Int)]) h)).set h (.bB H1.next H1.next)):=by
  show ao (some 1) (fun r=>ao (dS H1 1 r (.slice c.next 0 1 (.known 1))) fun H=>jX 1 8 (.slice a 0 u (.grown 1)) r H H1)=_
  show ao (dS H1 1 1 (.slice c.next 0 1 (.known 1))) _=_
  rw[w];show aQ (je (u+1) 8) (aQ (and (bn 1 1) (cG [V.int .u64 (x:Int)])) (ao (H1.cS a 0 (u*1)) fun I=>o4 H1 1 a (u+1) (cW I [V.int .u64 (x:Int)])))=_;rw[qq ⟨aa,aa⟩,B];show o4 H1 1 a (u+1) (cW (aL l) [V.int .u64 (x:Int)])=_;unfold o4;rw[j.row];show cP.casesOn (motive:=fun _=>Option (V×af)) (H1.get h) _ _ _ _=_;rw[G];show aQ (and (bn a a) (!(fh h))) _=_;rw[show bn a a=true from sn a,rH j.ne,iP];rfl
 rw[t];have E:aL l++[V.int .u64 (x:Int)]=aL (l++[x]):=by rw[yF];rfl
 rw[E,n];refine A _ ⟨?_,⟨c.next+1,?_,aE _⟩,o.ne⟩ (fun y q F=>?_) ?_
 ·rw[af.aK,aj aa,af.bf,ak n]
 ·rw[af.aK,ak rfl]
 ·rw[af.aK,aj (fun s=>F s.symm),af.bf,aj aa];exact k y q
 ·show H1.next+1=_
  rw[n]
theorem ahP(a n B e f:Nat)(M l:List Nat)(hn:l.length=n)(I:M.take n=l)(V:W.aA M)(K:M.length<1000000)(T:n≤a)(ab:a<1000000)(F:Fr)(H:af)(R:X→Fr→af→Prop)(C:rd 5 F=.slice B 0 a (.grown 1))(D:rd 6 F=.slice e 0 n (.grown 1))(E:cI H e f (aL M))(N:e<H.next)(Z:f<H.next)
 (L:∀p h i o,(∀t,t<10→t≠6→rd t p=rd t F)→rd 6 p=.slice i 0 a (.grown 1)→o.take a=l++aX (a-n) 0→W.aA o→o.length<1000000→cI h i f (aL o)→(∀y,y<H.next→y≠f→h.get y=H.get y)→H.next≤h.next→i<h.next→(i=e∨H.next≤i)→R (.exit 2) p h):bx (.loop (pc 188 1)) R F H:=by
 refine bH (fun k q c=>∃(m b:Nat) (d:List Nat),k=a-m∧n≤m∧m≤a∧(∀t,t<10→t≠6→rd t q=rd t F)∧rd 6 q=.slice b 0 m (.grown 1)∧d.take m=l++aX (m-n) 0∧W.aA d∧d.length<1000000∧cI c b f (aL d)∧(∀y,y<H.next→y≠f→c.get y=H.get y)∧H.next≤c.next∧b<c.next∧(b=e∨H.next≤b)) (a-n)
  ⟨n,e,M,rfl,aE _,T,fun _ _ _=>rfl,D,by rw[m6,p8,fG];exact I,V,K,E,fun _ _ _=>rfl,aE _,N,.inl rfl⟩ ?_
 rintro k q c ⟨m,b,d,rfl,am,ad,s,r,u,A,J,w,z,U,x,O⟩;have v:=(s 5 ag ag).trans C;rw[YQ];by_cases ac:m<a
 ·simp(disch:=omega)only[go_sem,YP,v,r,dt];refine ND w u (by simp;omega) aa x aa 0 ?_;intro Y G P al;simp(disch:=omega)only[go_sem];have Q:(l++aX (m-n) 0++[0])=l++aX (m+1-n) 0:=by
   rw[(aa:m+1-n=m-n+1),List.replicate_succ',eJ]
  refine⟨a-(m+1),aa,m+1,c.next+1,_,rfl,aa,aa,fun t j g=>?_,?_,?_,?_,?_,G,fun y j g=>(P y aa g).trans (z y j g),aa,aa,.inr aa⟩
  ·simp(disch:=omega)only[bV];exact s t j g
  ·simp only[go_sem]
  ·rw[Q,b_ (by simp;omega)]
  ·rw[←u];exact(A.take _).app (.mk ag W.aA.nil)
  ·simp;omega
 ·have S:m=a:=aa;subst S;simp(disch:=omega)only[go_sem,v,r,df];refine L _ _ b d (fun t j g=>?_) ?_ u A J w z U x O
  ·simp(disch:=omega)only[bV];exact s t j g
  ·simp only[go_sem,r]
theorem apX(s:Nat)(e:s≤63)(H:af):c7 363 [bl [],ay (s:Int)] H fun v a=>v=.an∧a=H:=by
 refine aT Gk ?_;have b:mg (s:Int) 64=0:=by
  show(((s/64:Nat)):Int)=0;omega
 have c:aC .u64 (0:Int)=0:=bW _ ag;have d:¬(64:Int)=0:=ag;have hl:((([]:List Nat).length:Nat):Int)=0:=rfl;simp(disch:=omega)only[go_sem,d363,Bg,jG,b,c,hl,df];exact⟨trivial,trivial⟩
theorem UA(H:af):c7 248 [.an] H fun v a=>v=.an∧a=H:=by
 refine aT O0 ?_;have b:ox false (.slice 166) [.an,.an]=some (.val bO):=rfl;simp only[go_sem,d248,LX,b];exact⟨trivial,trivial⟩
theorem UB(l n:List Nat)(h:0<l.length∧l.length≤1000000)(b:Nat)(c:Cap)(H:af)(d:H.get b=.cells (aL (l++n)) 0):c7 248 [.slice b 0 l.length c] H fun v a=>v=.slice (H.next+1) 0 l.length (.grown 1)∧cI a (H.next+1) (H.next+2) (aL l)∧a.next=H.next+3∧∀y,y<H.next→y≠b→a.get y=H.get y:=by
 have j:bR H (H.set b .none) (.slice b 0 l.length c) (bl l):=by
  refine .row (m:=l.length) (cs:=aL l) ?_ h.1 (by rw[af.aK,ak rfl]) (cD.refl _);rw[fJ d,c_,e4,ak (by rw[eM];simp),yF,yM (by rw[eM];exact aE _),b_ (by rw[eM];exact aE _)]
 refine(Kv d ⟨0,_,_,dj.2 rfl⟩ (.cons j .nil) (y_ l h (H.set b .none))).mono ?_;rintro _ a ⟨rfl,f,g,i⟩;refine⟨rfl,f,g,fun y k m=>(i y k).trans ?_⟩;rw[af.aK,aj (fun e=>m e.symm)]
theorem afU(m n:Nat)(k:n≠0)(G:2≤(aq n).length)(O:¬m<n)(a6:m%n=0)(lm:(aq m).length<100000)(ln:(aq n).length<100000)(N:Nat):c7 310 [bl (aq m),bl (aq n)] (af.zero N) fun v _=>∃q,v=.az [q,.an]:=by
 refine aT Gj ?_;have h1:(aq n).length≠1:=aa;have a2:=(jd n).2 k;simp(disch:=omega)only[go_sem,d310,E7];refine use (ve m n aa aa) ?_;have bo:¬fe (m:Int) (n:Int)<0:=by
  rcases Nat.lt_or_eq_of_le (jC O)with h|h
  ·rw[nP aa];decide
  ·rw[A3 aa];decide
 have z:(aq n).length≤(aq m).length:=lP (jC O);obtain⟨D,f⟩:∃t,t=(aq n).getD ((aq n).length-1) 0:=⟨_,rfl⟩;have S:=C2 n k;have B:=(gp n).getD ((aq n).length-1);rw[←f]at S B;obtain⟨e,K,w⟩:=zG (y:=D) S B;have P:=zF D B;obtain⟨s,Q⟩:∃s,s=64-eK D:=⟨_,rfl⟩;rw[←Q]at e K w P;clear Q;have o:0<2^s:=fl ag;have x:=Cj k e (by rw[←f];exact w);have y:=zO k e (by rw[←f];exact K) (by rw[←f];exact w);have a0:aC .u64 ((s:Nat):Int)=(s:Int):=bW _ aa;have T:aC .i64 (((aq n).length:Int)-1)=((aq n).length:Int)-1:=aH _ aa;have R:(((aq n).length:Int)-1).toNat=(aq n).length-1:=aa;obtain⟨c,i⟩:∃l,l=(aq m).length:=⟨_,rfl⟩;obtain⟨l,F⟩:∃l,l=(aq n).length:=⟨_,rfl⟩;rw[←i]at z lm;rw[←F]at a2 ln h1 G z f x y T R;have H:(aq (m*2^s)).length≤c+1:=by
  refine vj ?_;have a:=nS m;rw[←i]at a;have b:2^s≤18446744073709551616:=by rw[sZ (s:=s) aa];exact Nat.le_mul_of_pos_left _ (fl ag)
  rw[cQ];exact eG (od a o) (fy _ b)
 simp(disch:=omega)only[go_sem,E6,E5,df,←F,T,gN,R,dw,←f];refine use P ?_;simp(disch:=omega)only[go_sem,E4,a0];refine use (yb n s e aa) ?_;have a':aC .i64 ((c:Int)+1)=(c:Int)+1:=aH _ aa;have a9:((c:Int)+1).toNat=c+1:=aa;simp(disch:=omega)only[go_sem,E3,E2,←i,a',ir,a9,oJ];refine use (yb m s e aa) ?_;simp(disch:=omega)only[go_sem];refine Bv (cs:=aL (aX (c+1) 0)) (by simp only[go_sem]) H (by rw[eM];simp) ?_;obtain⟨d,g⟩:∃X,X=aq (m*2^s)++aX (c+1-(aq (m*2^s)).length) 0:=⟨_,rfl⟩;have I:aL (aq (m*2^s))++(aL (aX (c+1) 0)).drop (aq (m*2^s)).length=aL d:=by
  rw[g,yF];congr 1;rw[aL,←List.map_drop,List.drop_replicate];rfl
 have be:W.aA d:=by rw[g];exact(gp _).app (uo _)
 have aw:d.length=c+1:=by rw[g];simp;omega
 have J:W.val d=m*2^s:=by rw[g,W.fF,tj,gi,fc,cE]
 rw[I];clear I g H;obtain⟨j,ab⟩:∃j,c+1-l=j:=⟨_,rfl⟩;have ba:aC .i64 ((c:Int)-(l:Int))=(j:Int)-1:=by rw[aH _ aa];omega
 have bb:aC .i64 ((j:Int)-1+1)=(j:Int):=by rw[aH _ aa];omega
 simp(disch:=omega)only[go_sem,E_,E9,←i,ba,bb,ir,oJ,bJ];have ap:W.val (d.drop j)<W.val (aq (n*2^s)):=by
  have U:=W.pV d j aa;rw[J]at U;have a:=nS m;rw[←i,(aa:c=j+(l-1)),gw]at a;have b:=od a o;obtain⟨r,E,_⟩:=mV (n*2^s) (uX k aa);rw[x]at E;refine HY b U ?_;rw[gi,E];have al:2^s≤9223372036854775808:=cy (gl ag e) ag;have Z:=dn (18446744073709551616^(l-1)) (cy al y);rw[bK];exact cy Z (sq _ _)
 refine Fv d (aq (n*2^s)) l c j be (gp _) aw x G ab z aa y N (N+1) aa _ _ _ ?_ ?_ ?_ ?_ ?_ ap ?_ ?_ ?_
 iterate 5 simp only[go_sem]
 ·simp only[go_sem];rw[aj aa]
 ·simp only[go_sem]
 intro p Y r V u hr bj bi a5 C A a1 L bs;have h9:rd 9 p=ay (s:Int):=(u 9 ag).trans (by simp only[go_sem]);have ad:rd 11 p=.slice N 0 (c+1) (.known (c+1)):=(u 11 ag).trans (by simp only[go_sem]);have ae:rd 12 p=.slice (N+1) 0 j (.known j):=(u 12 ag).trans (by simp only[go_sem]);rw[fA];rw[J,gi]at C;rw[gi]at A;have ar:0<n*2^s:=Nat.mul_pos aa o;have hq:W.val V=m/n:=by
  rw[←Nat.mul_div_mul_right m n o,←C,bK,Nat.mul_add_div ar,m4 A,cE]
 have a7:W.val r=m%n*2^s:=by
  rw[←su,←C,bK,Nat.mul_add_mod,jV A]
 simp(disch:=omega)only[go_sem,E8,ae];refine jk (qT V aa) L ⟨0,_,_,dj.2 rfl⟩ (.cons (qs L (by rw[af.aK,ak rfl]) a5) .nil) ?_;simp(disch:=omega)only[go_sem,ad];have M:(Y.set (N+1) .none).get N=.cells (aL (r++aX j 0)) 0:=by rw[af.aK,aj aa];exact a1
 have a3:(r++aX j 0).length=c+1:=by simp;omega
 refine jk (qT (r++aX j 0) aa) M ⟨0,_,_,dj.2 rfl⟩ (.cons (qs M (by rw[af.aK,ak rfl]) a3) .nil) ?_;have a8:W.trim (r++aX j 0)=aq (m%n*2^s):=by
  rw[l_ (bj.app (uo _)),W.fF,tj,fc,cE,a7]
 rw[a8,l_ bi,hq];have b0:(aq (m%n*2^s)).length<100000:=by
  have:=lP (m:=m%n*2^s) (n:=n*2^s) (dn _ (g8 (eU _ aa)));omega
 rw[a6,jb,jY];simp(disch:=omega)only[go_sem,h9];refine use (apX s e) ?_;simp(disch:=omega)only[go_sem];exact⟨_,rfl⟩
theorem afZ(m n:Nat)(c:n≠0)(a:2≤(aq n).length)(b:¬m<n)(d:m%n=0)(f:(aq m).length<80)(g:(aq n).length<80)(N:Nat):c7 250 [bl (aq m),bl (aq n)] (af.zero N) fun v _=>∃q,v=.az [q,.an]:=by
 refine aT Gh ?_;simp(disch:=omega)only[go_sem,d250,EN,EM,dt];refine(afU m n c a b d aa aa N).mono ?_;rintro _ e ⟨q,rfl⟩;simp only[go_sem];exact⟨q,rfl⟩
def IX(H:af)(v:V)(n b g:Nat):Prop:=∃M,v=.slice b 0 (aq n).length (.grown 1)∧cI H b g (aL M)∧M.take (aq n).length=aq n∧W.aA M∧M.length<1000000
theorem He{b a c:List Nat}(h:d++b=a):(a++c).take d.length=d:=by
 rw[←h,eJ,p_]
structure Dp (X Y A B ba BO:Nat) (va Su:V) (H:af):Prop where
 ra:IX H va A ba BO
 a5:5≤ba
 ahz:5≤BO
 AQ:ba<H.next
 gn:BO<H.next
 le:B≤A
 AS:A≤X
 gcd:cx A B=cx X Y
 gt:GT H
 rb:(B=0∧Su=.an)∨∃bb vu,IX H Su B bb vu∧AD ba BO bb vu H.next∧5≤bb∧5≤vu
set_option maxHeartbeats 1000000 in
theorem ahF(K S ac ad be b0:Nat)(hX:(aq K).length<80)(F:Fr)(H:af)(R:X→Fr→af→Prop)(dq:Dp K S ac ad be b0 (rd 5 F) (rd 6 F) H)
 (hR:∀F' H' A B g i,Dp K S A B g i (rd 5 F') (rd 6 F') H'→(aq B).length≤1→R (.exit 0) F' H'):bx (.loop (pc 188 7)) R F H:=by
 refine bH (fun k al f=>∃A B g i,k=A+B∧Dp K S A B g i (rd 5 al) (rd 6 al) f) (ac+ad) ⟨ac,ad,be,b0,rfl,dq⟩ ?_;rintro k al f ⟨A,B,g,i,rfl,a⟩;rw[YY];rcases a.rb with⟨V,o⟩|⟨L,n,a7,h,cf,a3⟩
 ·simp(disch:=omega)only[go_sem,o,df];refine hR _ _ A B g i ?_ (by rw[V,jY];decide);simpa only[go_sem,↓reduceIte,kR]using a
 have fa:=hX;have a4:=eY (lP a.AS) hX;have ch:=eY (lP a.le) a4;obtain⟨C,U,a1,O,dl,eQ⟩:=a.ra;obtain⟨J,o,Z,E,a',a2⟩:=a7;by_cases a0:1<(aq B).length
 ·have V:0<B:=ld ((jd B).1 aa);simp(disch:=omega)only[go_sem,YX,U,o,dt];refine(w7 (R:=AI A B) (.cons (rB a1 (af.e7 _ _) rfl O) (.cons (rB Z (af.e7 _ _) rfl E) .nil)) ((ap3 A B a.le a0 aa _).mono ?_)).mono ?_
  ·rintro v e ⟨hs,_⟩;obtain⟨u,w,r,s,t,rfl,a8⟩:=hs;exact⟨_,fun b=>.agg (.cons (.int _ _) (.cons (.int _ _) (.cons (.int _ _) (.cons (.int _ _) (.cons (.bool _) .nil))))),u,w,r,s,t,rfl,a8⟩
  rintro _ f ⟨⟨u,w,r,s,t,rfl,l0,l1,es,m1,eb⟩,rfl⟩;by_cases ed:r=0
  ·simp(disch:=omega)only[go_sem,jP,Lw,U,o,dt];obtain⟨e,j⟩:∃e,e=(f.push (.cells [ay 0,ay 0,ay 0,ay 0,aD] 0)).set f.next (.cells (jP u w r s t) 0):=⟨_,rfl⟩
   have l:∀y,y<f.next→e.get y=f.get y:=fun y p=>by rw[j,af.aK,aj aa,af.bf,aj aa]
   have d6:e.next=f.next+1:=by rw[j];rfl
   unfold jP at j;rw[←j];clear j;have Y:cI e g i (aL C):=a1.keep (l _ a.AQ) (l _ a.gn);have N:cI e L n (aL J):=Z.keep (l _ h.lb') (l _ h.xL);have d2:GT e:=a.gt.keep fun y p=>l y (by have:=a.AQ;have:=a.a5;omega)
   have a6:cx B (A%B)=cx K S:=by rw[←a.gcd,qd A B,Nat.gcd_rec B A,qd]
   have e':=a.le;have dE:=a.AS;have cd:=h.lb';have ce:=h.xL;have d5:=eU A V;by_cases hr:A%B=0
   ·refine(w7 (R:=fun v=>v=.az [.any,.an]) (.cons (rB Y (af.e7 _ _) rfl O) (.cons (rB N (af.e7 _ _) rfl E) .nil)) ((afZ A B aa a0 aa hr a4 ch _).mono ?_)).mono ?_
    ·rintro v m ⟨q,rfl⟩;exact⟨_,fun b=>.az (.cons (.any _) (.cons .an .nil)),rfl⟩
    rintro _ e ⟨rfl,rfl⟩;simp(disch:=omega)only[go_sem,o];refine(UA _).mono ?_;rintro _ e ⟨rfl,rfl⟩;simp(disch:=omega)only[go_sem];refine⟨B+0,aa,B,0,L,n,rfl,?_⟩;simp only[go_sem];exact⟨⟨J,rfl,N,E,a',a2⟩,cf,a3,aa,aa,aa,aa,by rw[hr]at a6;exact a6,d2,.inl ⟨rfl,rfl⟩⟩
   ·refine(Ku (R:=fun v b cs=>∃I c,v=.az [.any,.slice b 0 (aq (A%B)).length c]∧cs=aL (aq (A%B)++I)) (.cons (rB Y (af.e7 _ _) rfl O) (.cons (rB N (af.e7 _ _) rfl E) .nil)) ((af0 A B aa a0 aa hr a4 ch _).mono ?_)).mono ?_
    ·rintro v m ⟨q,b,I,c,rfl,k1,k2,bA⟩;exact⟨_,b,_,.az (.cons (.any _) (.cons (.slice _ _ _) .nil)),k1,k2,bA,fun x hx=>by
      simp only[aL,k_]at hx;obtain⟨d,_,rfl⟩:=hx;exact⟨_,_,rfl⟩,I,c,rfl,rfl⟩
    rintro _ m ⟨b,cs,⟨I,c,rfl,rfl⟩,k1,k2,bA⟩;simp(disch:=omega)only[go_sem,o];have dT:m.get b=.cells (aL (aq (A%B)++I)) 0:=by rw[bA,ak rfl]
    have G:∀y,y≠b→m.get y=e.get y:=fun y p=>by rw[bA,aj p]
    have d':(aq (A%B)).length<1000000:=by
     have:=lP (g8 d5);omega
    refine(UB (aq (A%B)) I ⟨(jd _).2 hr,g8 d'⟩ b c m dT).mono ?_;rintro _ z ⟨rfl,j1,j2,el⟩;simp(disch:=omega)only[go_sem];have Q:∀y,y<f.next→z.get y=f.get y:=fun y p=>by rw[el y aa aa,G y aa,l y p]
    refine⟨B+A%B,aa,B,A%B,L,n,rfl,?_⟩;simp only[go_sem];refine⟨⟨J,rfl,Z.keep (Q _ cd) (Q _ ce),E,a',a2⟩,cf,a3,aa,aa,aa,aa,a6,a.gt.keep fun y p=>Q y aa,.inr ⟨_,_,⟨_,rfl,j1,b_ (aE _),gp _,aa⟩,⟨aa,aa,aa,aa,aa,aa,aa,aa⟩,aa,aa⟩⟩
  ·simp(disch:=omega)only[go_sem,jP,Lw,YW,df];obtain⟨e,j⟩:∃e,e=(f.push (.cells [ay 0,ay 0,ay 0,ay 0,aD] 0)).set f.next (.cells (jP u w r s t) 0):=⟨_,rfl⟩
   have l:∀y,y<f.next→e.get y=f.get y:=fun y p=>by rw[j,af.aK,aj aa,af.bf,aj aa]
   have a8:e.get f.next=.cells (jP u w r s t) 0:=by rw[j,af.aK,ak rfl]
   have d6:e.next=f.next+1:=by rw[j];rfl
   unfold jP at j;rw[←j];clear j;have Y:cI e g i (aL C):=a1.keep (l _ a.AQ) (l _ a.gn);have N:cI e L n (aL J):=Z.keep (l _ h.lb') (l _ h.xL);have cd:=h.lb';have ce:=h.xL;have e1:=a.AQ;have e2:=a.gn;have dC:=lP a.le;refine ahP (aq A).length (aq B).length g L n J (aq B) rfl E a' a2 dC aa _ e _ ?_ ?_ N aa aa ?_
   iterate 2 simp only[go_sem,U,o]
   intro bb m T M' hF bo b2 dp ex ds G fd d0 fg;have bj:rd 5 bb=.slice g 0 (aq A).length (.grown 1):=(hF 5 ag ag).trans (by simp only[go_sem,U]);have br:rd 7 bb=.ptr f.next 0:=(hF 7 ag ag).trans (by simp only[go_sem])
   have ci:m.get f.next=.cells (jP u w r s t) 0:=(G _ aa aa).trans a8
   have du:cI m g i (aL C):=Y.keep (G _ aa h.h2) (G _ aa h.h4);have fi:=h.h1;have fn:=h.h3;have P:AD g i T n m.next:=⟨aa,h.h2,aa,h.h4,aa,aa,d0,aa⟩
   rw[fA];unfold jP at ci;simp(disch:=omega)only[go_sem,YV,bj,bo,br,ci];obtain⟨a9,D,b',M⟩:=eb ed;have d7:(aq A).length≤C.length:=by
    have:=congrArg ku O;rw[dD]at this;omega
   have d8:(aq A).length≤M'.length:=by
    have:=congrArg ku b2;rw[dD,aS,wJ]at this;omega
   refine(Tt C M' (aq A).length u w r s t A B D b' dl dp d7 d8 aa (by rw[O,gi]) (by rw[b2,W.fF,gi,tj,fc,cE]) M a9 l0 l1 es m1 g i T n m du ds P).mono ?_;rintro _ z ⟨ap,bd,la,lb,dd,dk,va,ev,bs,bv,fb,Q⟩;simp(disch:=omega)only[go_sem,YU,bj];refine(C3 ap (ap++C.drop (aq A).length) (aq A).length la (by rw[←la,sk];rfl) (by simp;omega) g i z bs).mono ?_;rintro _ z ⟨rfl,rfl⟩;simp(disch:=omega)only[go_sem,bo];refine(C3 bd (bd++M'.drop (aq A).length) (aq A).length lb (by rw[←lb,sk];rfl) (by simp;omega) T n z bv).mono ?_;rintro _ z ⟨rfl,rfl⟩;simp(disch:=omega)only[go_sem];have d4:=M.less aa a9 V;have d3:=M.le;have e0:D≤A:=by
    have:=M.ba;have m1:D≤s*D:=by rw[bK];exact rJ a9
    omega
   have co:=C4 ap;have cp:=C4 bd;rw[l_ dd,va]at co⊢;rw[l_ dk,ev]at cp⊢;obtain⟨fr,d9⟩:=co;obtain⟨fs,a7⟩:=cp;have dE:=a.AS;have dv:=a.a5;have d1:=a.ahz;refine⟨D+b',d4,D,b',g,i,rfl,?_⟩;simp only[go_sem];refine⟨⟨_,rfl,bs,He d9,dd.app (dl.drop _),by simp;omega⟩,dv,d1,aa,aa,d3,aa,by rw[M.gcd];exact a.gcd,a.gt.keep fun y p=>?_,.inr ⟨T,n,⟨_,rfl,bv,He a7,dk.app (dp.drop _),by simp;omega⟩,⟨P.h1,P.h2,P.h3,P.h4,aa,aa,aa,aa⟩,aa,a3⟩⟩;rw[Q y aa aa aa aa aa,G y aa aa,l y aa]
 ·simp(disch:=omega)only[go_sem,o,df];refine hR _ _ A B g i ?_ aa;simpa only[go_sem,↓reduceIte,kR]using a
theorem ahE(m n:Nat)(lm:(aq m).length<80)(ln:(aq n).length<80):c4 188 [bl (aq m),bl (aq n)] (bl (aq (cx m n))):=by
 refine dm (.cons (dr _) (.cons (dr _) .nil)) (aT akl ?_)
 have O:∀(a b:Nat) (F:Fr),b≤a→(aq a).length<80→cx a b=cx m n→rd 0 F=bl (aq a)→rd 1 F=bl (aq b)→
  bx (pc 188 12) (gk [.tmp 4] fun v1 f=>GT f∧∃v,bR f (cZ.mz f.next) v1 v∧bz v∧v=bl (aq (cx m n))) F cZ:=by
  intro a b F E J l w i;have bc:=lP E;by_cases D:b=0
  ·subst D;rw[jY]at i;rw[Nat.gcd_zero_right]at l;have M:((([]:List Nat).length:Nat):Int)=0:=rfl;simp only[go_sem,Lv,w,i,M,decide_true];rw[l];exact bZ fB rfl (dr _)
  ·have ha:a≠0:=aa;have a8:=(jd b).2 D;simp(disch:=omega)only[go_sem,Lv,YS,w,i,df];refine(y_ (aq a) ⟨aa,aa⟩ _).mono ?_;rintro _ f ⟨rfl,x,t,H⟩;simp(disch:=omega)only[go_sem,i];refine(y_ (aq b) ⟨aa,aa⟩ _).mono ?_;rintro _ P ⟨rfl,z,Z,o⟩;have R:cZ.next=5:=rfl
   rw[R]at t x H;rw[t]at Z z o;rw[t];simp(disch:=omega)only[go_sem,YR];have ac:∀y,y<5→P.get y=cZ.get y:=fun y hy=>(o y aa).trans (H y hy)
   refine ahF a b a b 6 7 J _ _ _ ?_ ?_
   ·simp only[go_sem];exact⟨⟨aq a,rfl,x.keep (o _ ag) (o _ ag),b_ (aE _),gp _,aa⟩,ag,ag,aa,aa,E,aE _,rfl,fB.keep ac,.inr ⟨9,10,⟨aq b,rfl,z,b_ (aE _),gp _,aa⟩,⟨ag,ag,ag,ag,aa,aa,aa,aa⟩,ag,ag⟩⟩
   intro am u A B Q aw c a2;rw[fA];obtain⟨ar,q,r,s,bd,a3⟩:=c.ra;have a1:=eY (lP c.AS) J;have L:∀N,(cZ.mz N).get Q=.none:=fun N=>by
    have:=c.a5;rw[af.qv,kD,aj aa,aj aa,aj aa]
   have G:B=0→aq A=aq (cx m n):=fun e=>by
    have:=c.gcd;rw[e,Nat.gcd_zero_right]at this;rw[this,l]
   have M:((([]:List Nat).length:Nat):Int)=0:=rfl;rcases c.rb with⟨d,j⟩|⟨p,a0,⟨g,j,S,C,be,a4⟩,a7,a9,a'⟩
   ·simp(disch:=omega)only[go_sem,EB,q,j,decide_true];exact⟨c.gt,_,rB r (L _) rfl s,dr _,by rw[G d]⟩
   ·by_cases d:B=0
    ·have bb:(aq B).length=0:=by rw[d,jY];rfl
     simp(disch:=omega)only[go_sem,EB,q,j,dt];exact⟨c.gt,_,rB r (L _) rfl s,dr _,by rw[G d]⟩
    ·have I:(aq B).length=1:=by have:=(jd B).2 d;omega
     have k:B<18446744073709551616:=by
      have:=nS B;rw[I,Nat.pow_one]at this;exact this
     have T:g.getD 0 0=B:=by
      have e:(g.take (aq B).length).getD 0 0=g.getD 0 0:=by
       rw[I];simp only[bX];rw[List.getElem?_take,ak ag]
      rw[←e,C,FD d k];rfl
     have U:0<g.length:=by
      have:=congrArg ku C;rw[dD]at this;omega
     have K:iq false 1 [.ptr p 0] u=some (ay (B:Int)):=by rw[sR S,dw U,T]
     have Y:A%B<18446744073709551616:=qe (eU _ (ld d)) k;have W:cx B (A%B)=cx m n:=by rw[←l,←c.gcd,qd A B,Nat.gcd_rec B A,qd]
     have ba:cx B (A%B)≤B:=Nat.gcd_le_left _ (ld d);have X:dJ none 1 [.slice p 0 (aq B).length (.grown 1),ah 0]=some (.val (.ptr p 0)):=b3 aa;simp(disch:=omega)only[go_sem,EB,YZ,q,j,df,X,K];refine(w7 (R:=fun v=>v=ay ((A%B:Nat):Int)) (.cons (rB r (af.e7 _ _) rfl s) (.cons (.same _) .nil)) ((ape (aq A) B (gp A) ⟨ld d,k⟩ aa _).mono ?_)).mono ?_
     ·rintro v H4 ⟨rfl,_⟩;exact⟨_,fun b=>.int _ _,by rw[gi]⟩
     rintro _ u ⟨rfl,rfl⟩;simp(disch:=omega)only[go_sem,K,true_and];refine bL (ahD B (A%B) k Y) c.gt ?_;simp only[go_sem];refine use (BL _ aa) ?_;simp only[go_sem];rw[W];exact bZ c.gt rfl (dr _)
 simp only[go_sem,d188,YT];refine use (ve m n aa aa) ?_;by_cases h:m<n
 ·have V:fe m n<0:=by rw[nQ aa];decide
  simp(disch:=assumption)only[go_sem,dt];refine O n m _ aa ln (qd _ _) ?_ ?_
  iterate 2 simp only[go_sem]
 ·have V:¬fe m n<0:=by
   unfold fe;rw[aj aa];split<;>decide
  simp(disch:=assumption)only[go_sem,df];refine O m n _ aa lm rfl ?_ ?_
  iterate 2 simp only[go_sem]
def gb(b:Nat)(z:Int):Prop:=z.natAbs<2^b
variable{q:Int}
theorem gb.mono{a:Nat}(b:gb a q)(c:a≤h):gb h q:=eG b (gl ag c)
theorem gb.add{a:Nat}{y:Int}(b:gb a q)(c:gb h y)(i:a+1≤u)(j:h+1≤u):gb u (q+y):=by
 have d:=b.mono (aa:a≤u-1);have e:=c.mono (aa:h≤u-1);unfold gb at*;have f:=Int.natAbs_add_le q y;have g:(2:Nat)^u=2^(u-1)*2:=by rw[←cQ,Nat.succ_eq_add_one,(aa:u-1+1=u)]
 omega
theorem gb.mul{a:Nat}{y:Int}(c:gb a q)(d:gb h y)(b:a+h≤u):gb u (q*y):=by
 refine gb.mono (a:=a+h) ?_ b;unfold gb at*;rw[oS,gw];exact Nat.mul_lt_mul'' c d
theorem gb.nat(b:h<2^a):gb a (h:Int):=by unfold gb;rw[dB];exact b
theorem gb.len{k:Nat}(h:gb a q)(b:a≤64*k):(aq q.natAbs).length≤k:=by
 refine vj (eG h ?_);rw[(ag:(18446744073709551616:Nat)=2^64),←Nat.pow_mul];exact gl ag b
theorem Da(x y:Int)(k:(aq x.natAbs).length<100000)(l:(aq y.natAbs).length<100000):aW 177 [b5 x,b5 y] (b5 (x+y)):=by
 refine fE (.cons (gD _) (.cons (gD _) .nil)) (aT akc ?_);have f:∀ {z w:Int},z=w→∀H:af,∃u,bR H (af.zero H.next) (.agg (dg z)) u∧bz u∧u=b5 w:=fun e H=>iA (by rw[e];rfl) (gD _)
 have o:=ve x.natAbs y.natAbs aa aa;have r:∀s:Bool,decide (x<0)=s→decide (y<0)=s→(if s then-((x.natAbs+y.natAbs:Nat):Int)else((x.natAbs+y.natAbs:Nat):Int))=x+y:=by
  intro s c d;cases s with
  |true=>have:=of_decide_eq_true c;have:=of_decide_eq_true d;rw[ak rfl];omega
  |false=>have:=of_decide_eq_false c;have:=of_decide_eq_false d;rw[aj ag];omega
 have m:∀s t:Bool,decide (x<0)=s→decide (y<0)=t→s≠t→y.natAbs≤x.natAbs→(if s then-((x.natAbs-y.natAbs:Nat):Int)else((x.natAbs-y.natAbs:Nat):Int))=x+y:=by
  intro s t c d a q;cases s with
  |true=>
   cases t with
   |true=>exact absurd rfl a
   |false=>have:=of_decide_eq_true c;have:=of_decide_eq_false d;rw[ak rfl];omega
  |false=>
   cases t with
   |false=>exact absurd rfl a
   |true=>have:=of_decide_eq_false c;have:=of_decide_eq_true d;rw[aj ag];omega
 have n:∀s t:Bool,decide (x<0)=s→decide (y<0)=t→s≠t→x.natAbs≤y.natAbs→(if t then-((y.natAbs-x.natAbs:Nat):Int)else((y.natAbs-x.natAbs:Nat):Int))=x+y:=by
  intro s t c d a q;cases s with
  |true=>
   cases t with
   |true=>exact absurd rfl a
   |false=>have:=of_decide_eq_true c;have:=of_decide_eq_false d;rw[aj ag];omega
  |false=>
   cases t with
   |false=>exact absurd rfl a
   |true=>have:=of_decide_eq_false c;have:=of_decide_eq_true d;rw[ak rfl];omega
 generalize i:decide (x<0)=s at*
 generalize j:decide (y<0)=t at*
 by_cases a:s=t
 ·subst a;have e:=r s rfl rfl;have g:∀b:Bool,ox false .bool [.bool b,.bool b]=some (.val bO):=fun b=>by cases b<;>rfl
  simp only[go_sem,d177,Lo,b5,dg,i,j,g];refine use (Ta x.natAbs y.natAbs k l) ?_;simp only[go_sem,true_and];refine use (v7 s _) ?_;simp only[go_sem,b5,dg];exact f e _
 ·have g:ox false .bool [.bool s,.bool t]=some (.val aD):=by cases s<;>cases t<;>first|rfl|exact absurd rfl a
  simp only[go_sem,d177,Lo,Yg,b5,dg,i,j,g];refine use o ?_;by_cases h:y.natAbs≤x.natAbs
  ·have e:=m s t rfl rfl a h;have p:¬fe (x.natAbs:Int) (y.natAbs:Int)<0:=by
    unfold fe;rw[aj aa];split<;>decide
   simp(disch:=assumption)only[go_sem,df];refine use (R4 x.natAbs y.natAbs h k) ?_;simp only[go_sem,true_and];refine use (v7 s _) ?_;simp only[go_sem,b5,dg];exact f e _
  ·have e:=n s t rfl rfl a aa;have p:fe (x.natAbs:Int) (y.natAbs:Int)<0:=by rw[nQ aa];decide
   simp(disch:=assumption)only[go_sem,Yf,dt];refine use (R4 y.natAbs x.natAbs aa l) ?_;simp only[go_sem,true_and];refine use (v7 t _) ?_;simp only[go_sem,b5,dg];exact f e _
theorem JS(s t:Bool):ox true .bool [.bool s,.bool t]=some (.val (.bool (!(s==t)))):=by cases s<;>cases t<;>rfl
theorem asi(x y:Int)(n:Nat)(h:n=x.natAbs*y.natAbs):(if(!(decide (x<0)==decide (y<0)))=true then-(n:Int)else(n:Int))=x*y:=by
 subst h;rw[fU];by_cases b:x<0
 ·by_cases a:y<0
  ·rw[bk b,bk a,aj ag,(aa:(x.natAbs:Int)= -x),(aa:(y.natAbs:Int)= -y),Int.neg_mul_neg]
  ·rw[bk b,aZ a,ak ag,(aa:(x.natAbs:Int)= -x),(aa:(y.natAbs:Int)=y),Int.neg_mul,Int.neg_neg]
 ·by_cases a:y<0
  ·rw[aZ b,bk a,ak ag,(aa:(x.natAbs:Int)=x),(aa:(y.natAbs:Int)= -y),Int.mul_neg,Int.neg_neg]
  ·rw[aZ b,aZ a,aj ag,(aa:(x.natAbs:Int)=x),(aa:(y.natAbs:Int)=y)]
theorem uN(x y:Int)(a:(aq x.natAbs).length<40)(b:(aq y.natAbs).length<40):aW 173 [b5 x,b5 y] (b5 (x*y)):=by
 refine fE (.cons (gD _) (.cons (gD _) .nil)) (aT aj' ?_);simp only[go_sem,d173,Yc,b5,dg,JS];refine use (am3 x.natAbs y.natAbs a b) ?_;simp only[go_sem,true_and];refine use (v7 _ _) ?_;rw[asi x y _ rfl];simp only[go_sem,b5,dg];exact iA rfl (gD _)
theorem SD(x y:Int)(e:(aq x.natAbs).length<100000)(f:(aq y.natAbs).length<100000):aW 172 [b5 x,b5 y] (ah (fe x y)):=by
 refine cO (.cons (gD _) (.cons (gD _) .nil)) (.int _ _) (aT aj_ ?_);have c:=ve x.natAbs y.natAbs aa aa;have d:=ve y.natAbs x.natAbs aa aa;by_cases b:x<0
 ·by_cases a:y<0
  ·simp only[go_sem,d172,Ba,b5,dg,bk b,bk a];refine use d ?_;simp only[go_sem];unfold fe;congr 1;split<;>split<;>(try split)<;>(try split)<;>omega
  ·simp only[go_sem,d172,Ba,b5,dg,bk b,aZ a];rw[nQ aa]
 ·by_cases a:y<0
  ·simp only[go_sem,d172,Ba,b5,dg,aZ b,bk a];rw[nP aa]
  ·simp only[go_sem,d172,Ba,Yb,b5,dg,aZ b,aZ a];refine use c ?_;simp only[go_sem];unfold fe;congr 1;split<;>split<;>(try split)<;>(try split)<;>omega
theorem asd(x:Int):aW 234 [b5 x] (ah x.sign):=by
 refine cO (.cons (gD _) .nil) (.int _ _) (aT akx ?_);have hl:=jd x.natAbs;by_cases b:x=0
 ·have e:(((aq x.natAbs).length:Nat):Int)=0:=aa;simp(disch:=omega)only[go_sem,d234,EH,b5,dg,dt];rw[b];rfl
 ·have e:¬(((aq x.natAbs).length:Nat):Int)=0:=aa;by_cases a:x<0
  ·simp(disch:=omega)only[go_sem,d234,EH,b5,dg,df,bk a];rw[Int.sign_eq_neg_one_of_neg a]
  ·simp(disch:=omega)only[go_sem,d234,EH,ZL,b5,dg,df];rw[Int.sign_eq_one_of_pos aa]
theorem AA(x:Int):aW 124 [b5 x] (.bool (decide (x=1))):=by
 refine cO (.cons (gD _) .nil) (.bool _) (aT ajQ ?_);by_cases b:x<0
 ·simp(disch:=omega)only[go_sem,d124,Er,b5,dg,bk b,df]
 ·have hl:=jd x.natAbs;by_cases a:(aq x.natAbs).length=1
  ·have f:dJ none 1 [bl (aq x.natAbs),ah 0]=some (.val (.cY (aL (aq x.natAbs)) 0)):=gN ⟨ag,aa⟩;have g:(aq x.natAbs).getD 0 0=x.natAbs:=by
    obtain⟨r,c,d⟩:=mV x.natAbs aa;rw[a]at c d;simp only[m6,nK,dF]at c d;omega
   have e:decide (((x.natAbs:Nat):Int)=1)=decide (x=1):=decide_eq_decide.2 aa;simp(disch:=omega)only[go_sem,d124,Er,b5,dg,aZ b,dt,f,dw,g,e]
  ·have h:x≠1:=fun e=>by
    rw[e]at a;exact a (by rw[show(1:Int).natAbs=1 from rfl,age];rfl)
   simp(disch:=omega)only[go_sem,d124,Er,b5,dg,aZ b,df]
theorem tdiv_sign(x y:Int)(n:Nat)(h:n=x.natAbs/y.natAbs):(if(!(decide (x<0)==decide (y<0)))=true then-(n:Int)else(n:Int))=mg x y:=by
 subst h;by_cases d:x<0
 ·obtain⟨a,rfl⟩:∃a:Nat,x= -(a:Int):=⟨x.natAbs,aa⟩;by_cases c:y<0
  ·obtain⟨b,rfl⟩:∃b:Nat,y= -(b:Int):=⟨y.natAbs,aa⟩;rw[bk d,bk c,aj ag,Int.neg_tdiv,Int.tdiv_neg,Int.neg_neg,mZ,mZ,dB,dB];rfl
  ·obtain⟨b,rfl⟩:∃b:Nat,y=(b:Int):=⟨y.natAbs,aa⟩;rw[bk d,aZ c,ak ag,Int.neg_tdiv,mZ,dB,dB];rfl
 ·obtain⟨a,rfl⟩:∃a:Nat,x=(a:Int):=⟨x.natAbs,aa⟩;by_cases c:y<0
  ·obtain⟨b,rfl⟩:∃b:Nat,y= -(b:Int):=⟨y.natAbs,aa⟩;rw[aZ d,bk c,ak ag,Int.tdiv_neg,mZ,dB,dB];rfl
  ·obtain⟨b,rfl⟩:∃b:Nat,y=(b:Int):=⟨y.natAbs,aa⟩;rw[aZ d,aZ c,aj ag,dB,dB];rfl
theorem aq0(x y:Int)(n:Nat)(h:n=x.natAbs%y.natAbs):(if decide (x<0)=true then-(n:Int)else(n:Int))=m3 x y:=by
 subst h;obtain⟨b,c⟩:∃b:Nat,y.natAbs=b:=⟨_,rfl⟩;have f:m3 x y=m3 x (b:Int):=by
  rcases Int.natAbs_eq y with e|e
  ·rw[e,c]
  ·rw[e,c,Int.tmod_neg]
 rw[f,c];by_cases d:x<0
 ·obtain⟨a,rfl⟩:∃a:Nat,x= -(a:Int):=⟨x.natAbs,aa⟩;rw[bk d,ak rfl,Int.neg_tmod,mZ,dB];rfl
 ·obtain⟨a,rfl⟩:∃a:Nat,x=(a:Int):=⟨x.natAbs,aa⟩;rw[aZ d,aj ag,dB];rfl
theorem ar4(x y:Int)(c:y≠0)(a:(aq x.natAbs).length<80)(b:(aq y.natAbs).length<80):aW 241 [b5 x,b5 y] (.az [b5 (mg x y),b5 (m3 x y)]):=by
 refine fE (.cons (gD _) (.cons (gD _) .nil)) (aT akE ?_);have hl:=(jd y.natAbs).2 aa;simp(disch:=omega)only[go_sem,d241,Z3,Z2,b5,dg,df];refine use (afY x.natAbs y.natAbs aa a b) ?_;simp only[go_sem,Z1,JS];refine use (v7 _ _) ?_;rw[tdiv_sign x y _ rfl];simp only[go_sem,true_and];refine use (v7 _ _) ?_;rw[aq0 x y _ rfl];simp only[go_sem,b5,dg];exact iA rfl (.az (.cons (gD _) (.cons (gD _) .nil)))
theorem De(x y:Int)(d:y≠0)(e:(aq x.natAbs).length<80)(f:(aq y.natAbs).length<80):aW 178 [b5 x,b5 y] (b5 (mg x y)):=by
 refine fE (.cons (gD _) (.cons (gD _) .nil)) (aT akd ?_);have a:=AA y;have c:=ar4 x y d e f;unfold b5 dg at c a;by_cases b:y=1
 ·rw[bk b]at a;simp only[go_sem,d178,Lp,b5,dg];refine use a ?_;simp only[go_sem];exact iA (by rw[b,Int.tdiv_one]) (gD _)
 ·rw[aZ b]at a;simp only[go_sem,d178,Lp,Yi,Yh,b5,dg];refine use a ?_;simp only[go_sem];refine use c ?_;simp only[go_sem];exact iA rfl (gD _)
section
open Go.au Tryz
set_option maxRecDepth 100000
attribute [local irreducible] rd kc ex bE bF re rg mv bS pick alloc box bi bs be bp st fa cz cN dI c8 dN eB eA ms dx ek ej dY mx mn dX ap ee cJ dZ d_ cm ec ext er neg Go.au.not en ei ep eo ey eu ef ew dR dP u8
def j8:List UInt8:=[48,48,48,49,48,50,48,51,48,52,48,53,48,54,48,55,48,56,48,57,49,48,49,49,49,50,49,51,49,52,49,53,49,54,49,55,49,56,49,57,50,48,50,49,50,50,50,51,50,52,50,53,50,54,50,55,50,56,50,57,51,48,51,49,51,50,51,51,51,52,51,53,51,54,51,55,51,56,51,57,52,48,52,49,52,50,52,51,52,52,52,53,52,54,52,55,52,56,52,57,53,48,53,49,53,50,53,51,53,52,53,53,53,54,53,55,53,56,53,57,54,48,54,49,54,50,54,51,54,52,54,53,54,54,54,55,54,56,54,57,55,48,55,49,55,50,55,51,55,52,55,53,55,54,55,55,55,56,55,57,56,48,56,49,56,50,56,51,56,52,56,53,56,54,56,55,56,56,56,57,57,48,57,49,57,50,57,51,57,52,57,53,57,54,57,55,57,56,57,57]
def Bi:List UInt8:=[48,49,50,51,52,53,54,55,56,57,97,98,99,100,101,102,103,104,105,106,107,108,109,110,111,112,113,114,115,116,117,118,119,120,121,122]
def EF:=ai 229 f229 2
def d229:=aU 229 f229
def OY:=aR f229 229
def L6:=ai 295 f295 2
def d295:=aU 295 f295
def O1:=aR f295 295
def Ka:aP:=(.seq (.bN [ex 9 (mv (rd 0)),ex 10 (bi .mul (rd 9) (kc (ah 2))),ex 11 (mv (rd 0)),ex 12 (bi .mul (rd 11) (kc (ah 2))),ex 13 (bi .add (rd 12) (kc (ah 2))),ex 14 (dN true true false [(kc (.str j8)),(rd 10),(rd 13)]),ex 2 (bS (rd 14))])
 .ret)
def D8:aP:=(.seq (.seq (.bN [ex 3 (mv (rd 0)),ex 4 (bi .lss (rd 3) (kc (ah 10)))])
 (.cond (rd 4) (.seq (.bN [ex 5 (mv (rd 0)),ex 6 (mv (rd 0)),ex 7 (bi .add (rd 6) (kc (ah 1))),ex 8 (dN true true false [(kc (.str Bi)),(rd 5),(rd 7)]),ex 2 (bS (rd 8))])
 .ret) .skip))
 Ka)
def D7:aP:=(.seq (.bN [ex 2 (bS (kc (.str [])))])
 D8)
theorem akT:yL f291 291 D7 [.tmp 2]:=Pc
def aa8:=ai 292 f292 0
def aa9:=ai 292 f292 1
def d292:=aU 292 f292
def akU:=aR f292 292
def Kc:aP:=(.bN [ex 94 (mv (rd 4)),ex 95 (bi .sub (rd 94) (kc (ah 8))),ex 4 (bS (rd 95))])
def Kd:aP:=(.seq (.bN [ex 81 (mv (rd 0)),ex 82 (mv (rd 4)),ex 83 (bi .sub (rd 82) (kc (ah 7))),ex 84 (mv (rd 0)),ex 85 (mv (rd 4)),ex 86 (bi .sub (rd 85) (kc (ah 8))),ex 87 (mv (rd 10)),ex 88 (bi .add (rd 87) (kc (.int .u32 1))),ex 89 (cN (kc (.str j8)) (rd 88)),ex 90 (mv (rd 10)),ex 91 (cN (kc (.str j8)) (rd 90)),ex 92 (cz none 1 (rd 81) (rd 83)),bE (st 1 (rd 92) (rd 89)),ex 93 (cz none 1 (rd 84) (rd 86)),bE (st 1 (rd 93) (rd 91))])
 Kc)
def Kg:aP:=(.seq (.bN [ex 68 (mv (rd 0)),ex 69 (mv (rd 4)),ex 70 (bi .sub (rd 69) (kc (ah 5))),ex 71 (mv (rd 0)),ex 72 (mv (rd 4)),ex 73 (bi .sub (rd 72) (kc (ah 6))),ex 74 (mv (rd 11)),ex 75 (bi .add (rd 74) (kc (.int .u32 1))),ex 76 (cN (kc (.str j8)) (rd 75)),ex 77 (mv (rd 11)),ex 78 (cN (kc (.str j8)) (rd 77)),ex 79 (cz none 1 (rd 68) (rd 70)),bE (st 1 (rd 79) (rd 76)),ex 80 (cz none 1 (rd 71) (rd 73)),bE (st 1 (rd 80) (rd 78))])
 Kd)
def Kh:aP:=(.seq (.bN [ex 55 (mv (rd 0)),ex 56 (mv (rd 4)),ex 57 (bi .sub (rd 56) (kc (ah 3))),ex 58 (mv (rd 0)),ex 59 (mv (rd 4)),ex 60 (bi .sub (rd 59) (kc (ah 4))),ex 61 (mv (rd 8)),ex 62 (bi .add (rd 61) (kc (.int .u32 1))),ex 63 (cN (kc (.str j8)) (rd 62)),ex 64 (mv (rd 8)),ex 65 (cN (kc (.str j8)) (rd 64)),ex 66 (cz none 1 (rd 55) (rd 57)),bE (st 1 (rd 66) (rd 63)),ex 67 (cz none 1 (rd 58) (rd 60)),bE (st 1 (rd 67) (rd 65))])
 Kg)
def Ea:aP:=(.seq (.bN [ex 42 (mv (rd 0)),ex 43 (mv (rd 4)),ex 44 (bi .sub (rd 43) (kc (ah 1))),ex 45 (mv (rd 0)),ex 46 (mv (rd 4)),ex 47 (bi .sub (rd 46) (kc (ah 2))),ex 48 (mv (rd 9)),ex 49 (bi .add (rd 48) (kc (.int .u32 1))),ex 50 (cN (kc (.str j8)) (rd 49)),ex 51 (mv (rd 9)),ex 52 (cN (kc (.str j8)) (rd 51)),ex 53 (cz none 1 (rd 42) (rd 44)),bE (st 1 (rd 53) (rd 50)),ex 54 (cz none 1 (rd 45) (rd 47)),bE (st 1 (rd 54) (rd 52))])
 Kh)
def Ki:aP:=(.seq (.bN [ex 36 (mv (rd 6)),ex 37 (bi .quo (rd 36) (kc (.int .u32 100))),ex 38 (bi .mul (rd 37) (kc (.int .u32 2))),ex 39 (mv (rd 6)),ex 40 (bi .rem (rd 39) (kc (.int .u32 100))),ex 41 (bi .mul (rd 40) (kc (.int .u32 2))),ex 10 (bS (rd 38)),ex 11 (bS (rd 41))])
 Ea)
def Kj:aP:=(.seq (.bN [ex 30 (mv (rd 7)),ex 31 (bi .quo (rd 30) (kc (.int .u32 100))),ex 32 (bi .mul (rd 31) (kc (.int .u32 2))),ex 33 (mv (rd 7)),ex 34 (bi .rem (rd 33) (kc (.int .u32 100))),ex 35 (bi .mul (rd 34) (kc (.int .u32 2))),ex 8 (bS (rd 32)),ex 9 (bS (rd 35))])
 Ki)
def Kk:aP:=(.seq (.bN [ex 26 (mv (rd 5)),ex 27 (bi .quo (rd 26) (kc (.int .u32 10000))),ex 28 (mv (rd 5)),ex 29 (bi .rem (rd 28) (kc (.int .u32 10000))),ex 6 (bS (rd 27)),ex 7 (bS (rd 29))])
 Kj)
def Kl:aP:=(.seq (.bN [ex 24 (mv (rd 1)),ex 25 (bi .quo (rd 24) (kc (ay 100000000))),ex 1 (bS (rd 25))])
 Kk)
def Km:aP:=(.block 1 (.seq (.bN [ex 21 (mv (rd 1)),ex 22 (bi .rem (rd 21) (kc (ay 100000000))),ex 23 (cJ .u32 (rd 22)),ex 5 (bS (rd 23))])
 Kl))
def D9:aP:=(.seq (.seq (.bN [ex 19 (mv (rd 4)),ex 20 (bi .geq (rd 19) (kc (ah 8)))])
 (.cond (rd 20) .skip (.exit 0)))
 Km)
def D_:aP:=(.cond (rd 161) (.bN [ex 162 (mv (rd 0)),ex 163 (mv (rd 12)),ex 164 (bi .add (kc (.int .u32 48)) (rd 163)),ex 165 (cJ .u8 (rd 164)),ex 166 (cz none 1 (rd 162) (kc (ah 0))),bE (st 1 (rd 166) (rd 165))]) .skip)
def AX:aP:=(.seq (.bN [ex 160 (mv (rd 4)),ex 161 (bi .gtr (rd 160) (kc (ah 0)))])
 D_)
def AY:aP:=(.seq (.seq (.bN [ex 138 (mv (rd 4)),ex 139 (bi .geq (rd 138) (kc (ah 2)))])
 (.cond (rd 139) (.seq (.bN [ex 140 (mv (rd 12)),ex 141 (bi .rem (rd 140) (kc (.int .u32 100))),ex 142 (bi .mul (rd 141) (kc (.int .u32 2))),ex 16 (bS (rd 142))])
 (.seq (.bN [ex 143 (mv (rd 12)),ex 144 (bi .quo (rd 143) (kc (.int .u32 100))),ex 12 (bS (rd 144))])
 (.seq (.bN [ex 145 (mv (rd 0)),ex 146 (mv (rd 4)),ex 147 (bi .sub (rd 146) (kc (ah 1))),ex 148 (mv (rd 0)),ex 149 (mv (rd 4)),ex 150 (bi .sub (rd 149) (kc (ah 2))),ex 151 (mv (rd 16)),ex 152 (bi .add (rd 151) (kc (.int .u32 1))),ex 153 (cN (kc (.str j8)) (rd 152)),ex 154 (mv (rd 16)),ex 155 (cN (kc (.str j8)) (rd 154)),ex 156 (cz none 1 (rd 145) (rd 147)),bE (st 1 (rd 156) (rd 153)),ex 157 (cz none 1 (rd 148) (rd 150)),bE (st 1 (rd 157) (rd 155))])
 (.bN [ex 158 (mv (rd 4)),ex 159 (bi .sub (rd 158) (kc (ah 2))),ex 4 (bS (rd 159))])))) .skip))
 AX)
def AZ:aP:=(.seq (.seq (.bN [ex 98 (mv (rd 4)),ex 99 (bi .geq (rd 98) (kc (ah 4)))])
 (.cond (rd 99) (.seq (.bN [ex 100 (mv (rd 12)),ex 101 (bi .rem (rd 100) (kc (.int .u32 10000))),ex 13 (bS (rd 101))])
 (.seq (.bN [ex 102 (mv (rd 12)),ex 103 (bi .quo (rd 102) (kc (.int .u32 10000))),ex 12 (bS (rd 103))])
 (.seq (.bN [ex 104 (mv (rd 13)),ex 105 (bi .quo (rd 104) (kc (.int .u32 100))),ex 106 (bi .mul (rd 105) (kc (.int .u32 2))),ex 107 (mv (rd 13)),ex 108 (bi .rem (rd 107) (kc (.int .u32 100))),ex 109 (bi .mul (rd 108) (kc (.int .u32 2))),ex 14 (bS (rd 106)),ex 15 (bS (rd 109))])
 (.seq (.bN [ex 110 (mv (rd 0)),ex 111 (mv (rd 4)),ex 112 (bi .sub (rd 111) (kc (ah 1))),ex 113 (mv (rd 0)),ex 114 (mv (rd 4)),ex 115 (bi .sub (rd 114) (kc (ah 2))),ex 116 (mv (rd 15)),ex 117 (bi .add (rd 116) (kc (.int .u32 1))),ex 118 (cN (kc (.str j8)) (rd 117)),ex 119 (mv (rd 15)),ex 120 (cN (kc (.str j8)) (rd 119)),ex 121 (cz none 1 (rd 110) (rd 112)),bE (st 1 (rd 121) (rd 118)),ex 122 (cz none 1 (rd 113) (rd 115)),bE (st 1 (rd 122) (rd 120))])
 (.seq (.bN [ex 123 (mv (rd 0)),ex 124 (mv (rd 4)),ex 125 (bi .sub (rd 124) (kc (ah 3))),ex 126 (mv (rd 0)),ex 127 (mv (rd 4)),ex 128 (bi .sub (rd 127) (kc (ah 4))),ex 129 (mv (rd 14)),ex 130 (bi .add (rd 129) (kc (.int .u32 1))),ex 131 (cN (kc (.str j8)) (rd 130)),ex 132 (mv (rd 14)),ex 133 (cN (kc (.str j8)) (rd 132)),ex 134 (cz none 1 (rd 123) (rd 125)),bE (st 1 (rd 134) (rd 131)),ex 135 (cz none 1 (rd 126) (rd 128)),bE (st 1 (rd 135) (rd 133))])
 (.bN [ex 136 (mv (rd 4)),ex 137 (bi .sub (rd 136) (kc (ah 4))),ex 4 (bS (rd 137))])))))) .skip))
 AY)
def Ke:aP:=(.seq (.bN [ex 96 (mv (rd 1)),ex 97 (cJ .u32 (rd 96)),ex 12 (bS (rd 97))])
 AZ)
def Kf:aP:=(.seq (.block 0 (.loop D9))
 Ke)
def Kb:aP:=(.seq (.bN [ex 17 (mv (rd 0)),ex 18 (dx (rd 17)),ex 4 (bS (rd 18))])
 Kf)
theorem akV:yL f293 293 Kb []:=Pc
def aa_:=ai 296 f296 0
def d296:=aU 296 f296
def O2:=aR f296 296
def XZ:=ai 161 f161 0
def d161:=aU 161 f161
def OT:=aR f161 161
def acE:=ai 350 f350 0
def d350:=aU 350 f350
def ak9:=aR f350 350
def acF:=ai 351 f351 0
def Mw:=ai 351 f351 1
def d351:=aU 351 f351
def ak_:=aR f351 351
end
theorem Dd(x y:Int)(b:(aq x.natAbs).length<80)(c:(aq y.natAbs).length<80):c4 123 [b5 x,b5 y] (b5 (cx x.natAbs y.natAbs:Nat)):=by
 refine dm (.cons (gD _) (.cons (gD _) .nil)) (aT ajP ?_);simp only[go_sem,d123,V2,b5,dg];have a:GT (((cZ.push (.cells [.bool (decide (x<0)),bl (aq x.natAbs)] 0)).push (.cells [.bool (decide (y<0)),bl (aq y.natAbs)] 0)).push (.cells [aD,.an] 0)):=
  ((fB.push ag _).push (by show 5≤6;decide) _).push (by show 5≤7;decide) _
 refine bL (ahE _ _ b c) a ?_;simp only[go_sem];refine bZ (a.set ag _) ?_ (gD _);exact(hH _).symm
theorem arX(n:Int)(h: -9223372036854775808≤n∧n<9223372036854775808):aW 238 [ah n] (b5 n):=by
 refine fE (.cons (.int _ _) .nil) (aT akB ?_);by_cases b:n<0
 ·obtain⟨m,rfl⟩:∃m:Nat,n= -(m:Int):=⟨n.natAbs,aa⟩;have a:aC .u64 (-(m:Int))=((18446744073709551616-m:Nat):Int):=by rw[hJ];omega
  have c:aC .u64 (-((18446744073709551616-m:Nat):Int))=(m:Int):=by rw[hJ];omega
  simp(disch:=omega)only[go_sem,d238,LQ,dt,a,c];refine use (BL m aa) ?_;simp only[go_sem];refine iA ?_ (gD _);unfold b5 dg;rw[bk b,mZ,dB]
 ·obtain⟨m,rfl⟩:∃m:Nat,n=(m:Int):=⟨n.natAbs,aa⟩;have a:aC .u64 ((m:Nat):Int)=(m:Int):=bW _ aa;simp(disch:=omega)only[go_sem,d238,LQ,ZT,df,a];refine use (BL m aa) ?_;simp only[go_sem];refine iA ?_ (gD _);rw[hH]
def sN(z:Int):V:=if-9223372036854775808≤z∧z<9223372036854775808 then .az [ah z,bO]else .az [ah 0,aD]
theorem agS(z:Int):bz (sN z):=by
 unfold sN;split
 ·exact .az (.cons (.int _ _) (.cons (.bool _) .nil))
 ·exact .az (.cons (.int _ _) (.cons (.bool _) .nil))
theorem arV(z:Int)(s:(aq z.natAbs).length<100000):aW 166 [b5 z] (sN z):=by
 refine cO (.cons (gD _) .nil) (agS _) (aT aj6 ?_);have p:=jd z.natAbs;by_cases j:z=0
 ·have e:(aq z.natAbs).length=0:=aa;simp(disch:=omega)only[go_sem,d166,xd,b5,dg,dt];rw[j];rfl
 have d:(aq z.natAbs).length≠0:=aa;have a:dJ none 1 [bl (aq z.natAbs),ah 0]=some (.val (.cY (aL (aq z.natAbs)) 0)):=gN ⟨ag,aa⟩;have l:=nS z.natAbs;by_cases h:(aq z.natAbs).length=1
 ·have b:(aq z.natAbs).getD 0 0=z.natAbs:=by
   obtain⟨r,f,g⟩:=mV z.natAbs aa;rw[h]at f g;simp only[m6,nK,dF]at f g;omega
  rw[h,Nat.pow_one]at l;by_cases q:z<0
  ·by_cases k:z.natAbs≤9223372036854775808
   ·have m:aC .u64 (-((z.natAbs:Nat):Int))=((18446744073709551616-z.natAbs:Nat):Int):=by rw[hJ];omega
    have c:aC .i64 ((18446744073709551616-z.natAbs:Nat):Int)=z:=by
     rw[pX];unfold r8;simp[p4,p5];omega
    simp(disch:=omega)only[go_sem,d166,xd,ze,zd,b5,dg,df,dt,a,dw,b,m,c];unfold sN;rw[ak aa]
   ·simp(disch:=omega)only[go_sem,d166,xd,ze,zd,Lh,b5,dg,df,dt,a,dw,b];unfold sN;rw[aj aa]
  ·by_cases k:z.natAbs≤9223372036854775807
   ·have c:aC .i64 ((z.natAbs:Nat):Int)=z:=by rw[aH _ aa];omega
    simp(disch:=omega)only[go_sem,d166,xd,ze,zd,b5,dg,df,a,dw,b,c];unfold sN;rw[ak aa]
   ·simp(disch:=omega)only[go_sem,d166,xd,ze,zd,Lh,b5,dg,df,dt,a,dw,b];unfold sN;rw[aj aa]
 ·have o:18446744073709551616≤z.natAbs:=by
   have i:=W.aO.pos (Bp z.natAbs) (fun e=>by rw[e]at d;exact d rfl);rw[gi]at i;refine cy ?_ i;have:=gl (n:=18446744073709551616) ag (aa:1≤(aq z.natAbs).length-1);rw[Nat.pow_one]at this;exact this
  simp(disch:=omega)only[go_sem,d166,xd,ze,zd,b5,dg,df,dt,a,dw];unfold sN;rw[aj aa]
end Go.Proofs.YtddhncjmaahodaaGreatDoor
namespace Go.aF
def dp:Nat→Nat→List UInt8
 |0,_=>[]
 |k+1,m=>gJ (48+m/10^k%10)::dp k m
theorem Fy:∀k m,(dp k m).length=k
 |0,_=>rfl
 |k+1,m=>by rw[dp,cL,Fy k m]
variable{a:Nat}
theorem ofNat_toNat(h:a<10):(gJ (48+a)).toNat=48+a:=by
 rw[UInt8.toNat_ofNat'];exact jV aa
theorem Fz:∀k m,dp (k+1) m=dp k (m/10)++[gJ (48+m%10)]
 |0,m=>by simp[dp]
 |k+1,m=>by
  rw[dp,Fz k m,dp,oX,cQ,bK 10];rfl
theorem Nu(a:Nat)(b:a≠0):∀k r,r<10^k→ds (a*10^k+r)=ds a++dp k r
 |0,r,h=>by
  have:r=0:=by simpa using h
  subst this;simp[dp]
 |k+1,r,h=>by
  have e:a*10^(k+1)+r=10*(a*10^k+r/10)+r%10:=by
   rw[cQ,bK (10^k),mo];omega
  have c:0<10^k:=fl ag;have d:0<a*10^k:=Nat.mul_pos (ld b) c;rw[e,Bm _ _ (eU _ ag) (.inl aa),Nu a b k (r/10) (by rw[cQ]at h;omega),Fz,eJ]
theorem Fx:∀k m,10^k≤m→m<10^(k+1)→dp (k+1) m=ds m
 |0,m,a,b=>by
  rw[qo aa,(aa:m/10=0),nh];simp[dp]
 |k+1,m,a,b=>by
  rw[Fz,qo (by have:0<10^(k+1):=fl ag;omega),Fx k (m/10) (by rw[cQ]at a;omega) (by rw[cQ]at b;omega)]
variable{h:Nat}
theorem xm(d:0<a)(h1:a=1∨10^(a-1)≤h)(c:h<10^a):dp a h=dec h:=by
 obtain⟨a,rfl⟩:∃j,a=j+1:=⟨a-1,aa⟩;unfold dec;by_cases b:h=0
 ·subst b;rw[ak rfl];rcases h1 with h1|h1
  ·have:a=0:=aa;subst this;simp[dp]
  ·have:0<10^(a+1-1):=fl ag;omega
 ·rw[aj b];rcases h1 with h1|h1
  ·have:a=0:=aa;subst this;exact Fx 0 h (by simp;omega) c
  ·exact Fx a h h1 c
theorem af4(k m q:Nat)(a:q=m/10^k):dp (k+1) m=gJ (48+q%10)::dp k m:=by rw[dp,a]
theorem vi(k m x:Nat)(a:x=m/10^k%100):dp (k+2) m=gJ (48+x/10)::gJ (48+x%10)::dp k m:=by
 have b:m/10^(k+1)%10=x/10:=by
  rw[a,cQ,←oX];omega
 have c:m/10^k%10=x%10:=by rw[a];omega
 rw[dp,dp,b,c]
end Go.aF
namespace Go.Proofs.YtddhncjmaahodaaGreatDoor
open Go.au Go.aF
theorem RP:∀x:Fin 100,(j8.getD (2*x.val) 0).toNat=48+x.val/10∧(j8.getD (2*x.val+1) 0).toNat=48+x.val%10:=ag
variable{j:List UInt8}{a:Nat}{n:IntKind}
theorem OS(h:a<j.length):kF [.str j,.int n (a:Int)]=some (.val (.int .u8 (((j.getD a 0).toNat:Nat):Int))):=
 oE aa (by rw[bJ,bX,cn h];rfl)
theorem vB(h:a<100):kF [.str j8,.int .u32 ((2*a+1:Nat):Int)]=some (.val (.int .u8 ((48+a%10:Nat):Int))):=by
 rw[OS (by show 2*a+1<200;omega),(RP ⟨a,h⟩).2]
theorem vC(h:a<100):kF [.str j8,.int .u32 ((2*a:Nat):Int)]=some (.val (.int .u8 ((48+a/10:Nat):Int))):=by
 rw[OS (by show 2*a<200;omega),(RP ⟨a,h⟩).1]
def ko(b X a:List UInt8)(i:Nat)(D:List UInt8):List V:=cl (b++X.take i++D++a)
theorem TW(L:List UInt8)(j:Nat)(c:UInt8):(cl L).set j (.int .u8 (c.toNat:Int))=cl (L.set j c):=by simp[cl,List.map_set]
theorem nt{pre X post D:List UInt8}{i o d:Nat}(b:pre.length=o)(hi:i<X.length)(a:d<10):cC [V.int .u8 ((48+d:Nat):Int)] (ko pre X post (i+1) D) (o+i)=some (ko pre X post i (gJ (48+d)::D)):=by
 have c:X.take (i+1)=X.take i++[X[i]]:=kQ hi;have hl:(pre++X.take i).length=o+i:=by simp[b];omega
 have e:pre++X.take (i+1)++D++post=pre++X.take i++X[i]::(D++post):=by rw[c];simp only[eJ,eS,eI]
 unfold ko;rw[e,e9 (by rw[jc,aS,hl];simp),show V.int .u8 ((48+d:Nat):Int)=V.int .u8 (((gJ (48+d)).toNat:Nat):Int)from by rw[ofNat_toNat a],TW,←hl,List.set_append_right _ _ (aE _),m6];simp only[List.set_cons_zero,eJ,eS]
theorem nk{b o n m:Nat}{c:Cap}{k:IntKind}{x:Int}(a:x=(m:Int))(d:m<n):dJ none 1 [.slice b o n c,.int k x]=some (.val (.ptr b (o+m))):=by
 subst a;rw[b3 aa,bJ,dF]
set_option maxHeartbeats 1000000 in
theorem aox(a X d D:List UInt8)(n o b i g k l m:Nat)(c:Cap)(f:a.length=o)(hX:X.length=n)(hi:i+8≤n)(hn:n≤20)(u:g<100)(v:k<100)(w:l<100)(y:m<100)(F:Fr)(H:af)(Q:Go.au.X→Fr→af→Prop)(s:rd 0 F=.slice b o n c)(t:rd 4 F=ah ((i+8:Nat):Int))(G:rd 9 F=.int .u32 ((2*g:Nat):Int))(E:rd 8 F=.int .u32 ((2*k:Nat):Int))(C:rd 11 F=.int .u32 ((2*l:Nat):Int))(B:rd 10 F=.int .u32 ((2*m:Nat):Int))(A:H.get b=.cells (ko a X d (i+8) D) 0)
 (I:∀r z,rd 0 r=rd 0 F→rd 1 r=rd 1 F→rd 4 r=ah (i:Int)→eH H z b (ko a X d i (gJ (48+m/10)::gJ (48+m%10)::gJ (48+l/10)::gJ (48+l%10)::gJ (48+k/10)::gJ (48+k%10)::gJ (48+g/10)::gJ (48+g%10)::D))→Q .norm r z):bx Ea Q F H:=by
 have wp:∀x:Nat,x<100→aC .u32 (((2*x:Nat):Int)+1)=((2*x+1:Nat):Int):=fun x hx=>by rw[gC _ aa];omega
 have w0:=wp g u;have w1:=wp k v;have w2:=wp l w;have w3:=wp m y;have x0:=vB u;have a5:=vB v;have a6:=vB w;have a7:=vB y;have y0:=vC u;have y1:=vC v;have a':=vC w;have ba:=vC y;have p:∀x,x<100→x/10<10:=fun x h=>aa
 have q:∀x,x%10<10:=fun x=>eU _ ag
 have S:=fun D=>nt (pre:=a) (X:=X) (post:=d) (D:=D) (i:=i+7) f aa (q g)
 have T:=fun D=>nt (pre:=a) (X:=X) (post:=d) (D:=D) (i:=i+6) f aa (p g u)
 have U:=fun D=>nt (pre:=a) (X:=X) (post:=d) (D:=D) (i:=i+5) f aa (q k)
 have V:=fun D=>nt (pre:=a) (X:=X) (post:=d) (D:=D) (i:=i+4) f aa (p k v)
 have W:=fun D=>nt (pre:=a) (X:=X) (post:=d) (D:=D) (i:=i+3) f aa (q l)
 have Y:=fun D=>nt (pre:=a) (X:=X) (post:=d) (D:=D) (i:=i+2) f aa (p l w)
 have Z:=fun D=>nt (pre:=a) (X:=X) (post:=d) (D:=D) (i:=i+1) f aa (q m)
 have ab:=fun D=>nt (pre:=a) (X:=X) (post:=d) (D:=D) (i:=i) f aa (p m y)
 have e:∀j:Int,0≤j∧j≤8→aC .i64 (((i+8:Nat):Int)-j)=((i+8:Nat):Int)-j:=fun j hj=>aH _ aa
 have v1:=e 1 ag;have v2:=e 2 ag;have v3:=e 3 ag;have v4:=e 4 ag;have am:=e 5 ag;have v6:=e 6 ag;have ar:=e 7 ag;have aw:=e 8 ag;have J:=nk (b:=b) (o:=o) (n:=n) (c:=c) (k:=.i64) (x:=((i+8:Nat):Int)-1) (m:=i+7) aa aa;have K:=nk (b:=b) (o:=o) (n:=n) (c:=c) (k:=.i64) (x:=((i+8:Nat):Int)-2) (m:=i+6) aa aa;have L:=nk (b:=b) (o:=o) (n:=n) (c:=c) (k:=.i64) (x:=((i+8:Nat):Int)-3) (m:=i+5) aa aa;have M:=nk (b:=b) (o:=o) (n:=n) (c:=c) (k:=.i64) (x:=((i+8:Nat):Int)-4) (m:=i+4) aa aa;have N:=nk (b:=b) (o:=o) (n:=n) (c:=c) (k:=.i64) (x:=((i+8:Nat):Int)-5) (m:=i+3) aa aa;have O:=nk (b:=b) (o:=o) (n:=n) (c:=c) (k:=.i64) (x:=((i+8:Nat):Int)-6) (m:=i+2) aa aa;have P:=nk (b:=b) (o:=o) (n:=n) (c:=c) (k:=.i64) (x:=((i+8:Nat):Int)-7) (m:=i+1) aa aa;have R:=nk (b:=b) (o:=o) (n:=n) (c:=c) (k:=.i64) (x:=((i+8:Nat):Int)-8) (m:=i) aa aa;clear e p q wp;simp only[go_sem,Ea,s,t,G,v1,v2,w0,x0,y0,J,K,A,S,T];simp only[go_sem,Kh,s,t,E,v3,v4,w1,a5,y1,L,M,U,V];simp only[go_sem,Kg,s,t,C,am,v6,w2,a6,a',N,O,W,Y];simp only[go_sem,Kd,Kc,s,t,B,ar,aw,w3,a7,ba,P,R,Z,ab];refine I _ _ ?_ ?_ ?_ ?_
 iterate 2 simp only[go_sem]
 ·simp only[go_sem];congr 1;omega
 ·exact((((((((eH.refl A).set _).set _).set _).set _).set _).set _).set _).set _
set_option maxHeartbeats 1000000 in
theorem ahg(l X v:List UInt8)(n a o b:Nat)(c:Cap)(ho:l.length=o)(hX:X.length=n)(hn:n≤20)(hu:a<18446744073709551616)(F:Fr)(H:af)(R:Go.au.X→Fr→af→Prop)(U:rd 0 F=.slice b o n c)(V:rd 1 F=ay (a:Int))(W:rd 4 F=ah (n:Int))(ae:H.get b=.cells (ko l X v n []) 0)
 (hR:∀e w i k,i+k=n→i<8→rd 0 e=.slice b o n c→rd 1 e=ay ((a/10^k:Nat):Int)→rd 4 e=ah (i:Int)→eH H w b (ko l X v i (dp k a))→R (.exit 0) e w):bx (.loop D9) R F H:=by
 refine bH (fun m q E=>∃k,m+k=n∧rd 0 q=.slice b o n c∧rd 1 q=ay ((a/10^k:Nat):Int)∧rd 4 q=ah (m:Int)∧eH H E b (ko l X v m (dp k a))) n ⟨0,rfl,U,by rw[nK,qc];exact V,W,eH.refl ae⟩ ?_;rintro m q E ⟨k,hk,A,N,t,B⟩;unfold D9;by_cases h8:8≤m
 ·obtain⟨i,rfl⟩:∃i,m=i+8:=⟨m-8,aa⟩;have hg:=B.at;have cf:a/10^k<18446744073709551616:=eY (jn _ _) hu;have y:dp (k+2) a=_:=vi k a _ rfl;have r:dp (k+2+2) a=_:=vi (k+2) a _ rfl;have d3:dp (k+2+2+2) a=_:=vi (k+2+2) a _ rfl;have z:dp (k+2+2+2+2) a=_:=vi (k+2+2+2) a _ rfl;have C:a/10^(k+2)=a/10^k/100:=by rw[gw,oX]
  have D:a/10^(k+2+2)=a/10^k/10000:=by rw[gw,←oX,C];omega
  have fo:a/10^(k+2+2+2)=a/10^k/1000000:=by rw[gw,←oX,D];omega
  have bb:a/10^(k+8)=a/10^k/100000000:=by rw[gw,←oX]
  rw[C]at r;rw[D]at d3;rw[fo]at z;generalize a/10^k=u at*
  obtain⟨s,T⟩:∃s,s=u%100000000:=⟨_,rfl⟩;obtain⟨hi,L⟩:∃x,x=s/10000:=⟨_,rfl⟩;obtain⟨lo,M⟩:∃x,x=s%10000:=⟨_,rfl⟩;obtain⟨f,G⟩:∃x,x=lo%100:=⟨_,rfl⟩;obtain⟨g,I⟩:∃x,x=lo/100:=⟨_,rfl⟩;obtain⟨h,J⟩:∃x,x=hi%100:=⟨_,rfl⟩;obtain⟨j,K⟩:∃x,x=hi/100:=⟨_,rfl⟩;rw[(aa:u%100=f)]at y;rw[(aa:u/100%100=g),y]at r;rw[(aa:u/10000%100=h),r]at d3;rw[(aa:u/1000000%100=j),d3]at z;clear y r d3 C D fo;have q1:m3 (u:Int) 100000000=(s:Int):=by rw[T];rfl
  have bd:mg (u:Int) 100000000=((u/100000000:Nat):Int):=rfl;have be:mg (s:Int) 10000=(hi:Int):=by rw[L];rfl
  have bi:m3 (s:Int) 10000=(lo:Int):=by rw[M];rfl
  have bj:mg (lo:Int) 100=(g:Int):=by rw[I];rfl
  have bo:m3 (lo:Int) 100=(f:Int):=by rw[G];rfl
  have bs:mg (hi:Int) 100=(j:Int):=by rw[K];rfl
  have bv:m3 (hi:Int) 100=(h:Int):=by rw[J];rfl
  have a2:s<100000000:=aa;have O:f<100:=aa;have P:g<100:=aa;have Q:h<100:=aa;have S:j<100:=aa;have cd:hi<10000:=aa;have ce:lo<10000:=aa;have b1:¬(100:Int)=0:=ag;have b2:¬(10000:Int)=0:=ag;have b':¬(100000000:Int)=0:=ag;have ws:aC .u64 ((s:Nat):Int)=(s:Int):=bW _ aa;have b0:aC .u64 ((u/100000000:Nat):Int)=((u/100000000:Nat):Int):=bW _ aa;clear T L M G I J K;have d:∀x:Nat,x<100000000→aC .u32 ((x:Nat):Int)=(x:Int):=fun x hx=>gC _ aa
  have p:∀x:Nat,x<100→aC .u32 ((x:Int)*2)=((2*x:Nat):Int):=fun x hx=>by rw[gC _ aa];omega
  have k1:=d s a2;have k2:=d hi aa;have bA:=d lo aa;have ch:=d f aa;have a7:=d g aa;have ci:=d h aa;have fP:=d j aa;have a8:=p f O;have m1:=p g P;have m2:=p h Q;have ba:=p j S;clear d p;have cb:¬((i+8:Nat):Int)<8:=aa;simp(disch:=assumption)only[go_sem,Km,Kl,Kk,Kj,Ki,N,t,df,jG,mB,q1,bd,be,bi,bj,bo,bs,bv,b0,k1,k2,a7,fP,a8,m1,m2,ba];refine aox l X v (dp k a) n o b i f g h j c ho hX aa hn O P Q S _ _ _ ?_ ?_ ?_ ?_ ?_ ?_ hg ?_
  iterate 6 simp only[go_sem,A,t]
  intro e w Y Z g4 am;have h0:rd 0 e=.slice b o n c:=Y.trans (by simp only[go_sem,A]);have h1:rd 1 e=ay ((u/100000000:Nat):Int):=Z.trans (by simp only[go_sem]);simp only[go_sem];refine⟨i,aa,k+8,aa,h0,?_,g4,?_⟩
  ·rw[bb];exact h1
  ·rw[show k+8=k+2+2+2+2 from rfl,z];exact B.trans am
 ·simp(disch:=omega)only[go_sem,t,dt];refine hR _ _ m k hk aa ?_ ?_ ?_ B
  iterate 3 simp only[go_sem,A,N,t]
section
variable (pre X post:List UInt8) (n bu o b:Nat) (c:Cap) (ho:pre.length=o) (hX:X.length=n) (hn:n≤20)
include ho hX hn
theorem Oc(i k u:Nat)(A:i+k=n)(hi:i<2)(t:u=bu/10^k)(v:u<10^i)(F:Fr)(H:af)(Q:Go.au.X→Fr→af→Prop)(p:rd 0 F=.slice b o n c)(f:rd 4 F=ah (i:Int))(q:rd 12 F=.int .u32 (u:Int))(a:H.get b=.cells (ko pre X post i (dp k bu)) 0)
 (g:∀l e,eH H e b (ko pre X post 0 (dp n bu))→Q .norm l e):bx AX Q F H:=by
 by_cases r:i=0
 ·subst r;have d:k=n:=aa;subst d;simp(disch:=omega)only[go_sem,AX,D_,f,df];exact g _ _ (eH.refl a)
 ·have s:i=1:=aa;subst s;have d:n=k+1:=aa;have j:u<10:=by simpa using v
  have h:=af4 k bu u t;rw[jV j]at h;have y:aC .u32 ((48:Int)+(u:Int))=((48+u:Nat):Int):=by rw[gC _ aa];omega
  have z:aC .u8 ((48+u:Nat):Int)=((48+u:Nat):Int):=FL _ aa;have w:=nk (b:=b) (o:=o) (n:=n) (c:=c) (k:=.i64) (x:=0) (m:=0) rfl aa;have x:cC [V.int .u8 ((48+u:Nat):Int)] (ko pre X post 1 (dp k bu)) o=some (ko pre X post 0 (gJ (48+u)::dp k bu)):=nt (i:=0) (o:=o) ho aa j;have m:((1:Nat):Int)=1:=rfl;simp(disch:=omega)only[go_sem,AX,D_,p,f,q,m,dt,y,z,w,a];rw[x];simp only[go_sem];refine g _ _ ?_;rw[d,h];exact(eH.refl a).set _
theorem Od(i k u:Nat)(w:i+k=n)(hi:i<4)(l:u=bu/10^k)(m:u<10^i)(F:Fr)(H:af)(Q:Go.au.X→Fr→af→Prop)(f:rd 0 F=.slice b o n c)(g:rd 4 F=ah (i:Int))(p:rd 12 F=.int .u32 (u:Int))(h:H.get b=.cells (ko pre X post i (dp k bu)) 0)
 (r:∀e d,eH H d b (ko pre X post 0 (dp n bu))→Q .norm e d):bx AY Q F H:=by
 have S:u<10000:=eG m (cy (gl ag (aa:i≤4)) ag);by_cases P:2≤i
 ·obtain⟨j,rfl⟩:∃j,i=j+2:=⟨i-2,aa⟩;obtain⟨a,q⟩:∃x,x=u%100:=⟨_,rfl⟩;have s:a<100:=aa;have v:dp (k+2) bu=_:=vi k bu a (by rw[q,l]);have G:m3 (u:Int) 100=(a:Int):=by rw[q];rfl
  have I:mg (u:Int) 100=((u/100:Nat):Int):=rfl;have O:¬(100:Int)=0:=ag;have T:aC .u32 ((a:Nat):Int)=(a:Int):=gC _ aa;have B:aC .u32 ((u/100:Nat):Int)=((u/100:Nat):Int):=gC _ aa;have E:aC .u32 ((a:Int)*2)=((2*a:Nat):Int):=by rw[gC _ aa];omega
  have L:aC .u32 (((2*a:Nat):Int)+1)=((2*a+1:Nat):Int):=by rw[gC _ aa];omega
  have M:=vB s;have N:=vC s;have C:=nt (pre:=pre) (X:=X) (post:=post) (D:=dp k bu) (i:=j+1) (o:=o) (d:=a%10) ho aa (eU _ ag);have D:=nt (pre:=pre) (X:=X) (post:=post) (D:=gJ (48+a%10)::dp k bu) (i:=j) (o:=o) (d:=a/10) ho aa aa;have J:aC .i64 (((j+2:Nat):Int)-1)=((j+2:Nat):Int)-1:=aH _ aa;have K:aC .i64 (((j+2:Nat):Int)-2)=(j:Int):=by rw[aH _ aa];omega
  have z:=nk (b:=b) (o:=o) (n:=n) (c:=c) (k:=.i64) (x:=((j+2:Nat):Int)-1) (m:=j+1) aa aa;have A:=nk (b:=b) (o:=o) (n:=n) (c:=c) (k:=.i64) (x:=(j:Int)) (m:=j) rfl aa;have R:¬((j+2:Nat):Int)<2:=aa;simp(disch:=assumption)only[go_sem,AY,f,g,p,df,jG,mB,G,I,B,E,L,M,N,J,K,z,A,h,C,D];have y:u/100<10^j:=by
   rw[q8 ag,show(100:Nat)=10^2 from rfl,←gw];exact m
  refine Oc pre X post n bu o b c ho hX hn j (k+2) (u/100) aa aa (by rw[l,gw,oX]) y _ _ _ ?_ ?_ ?_ ?_ ?_
  iterate 3 simp only[go_sem,f]
  ·rw[v,af.aK,ak rfl]
  ·intro e d t;exact r e d (((eH.refl h).set _).set _|>.trans t)
 ·simp(disch:=omega)only[go_sem,AY,g,dt];refine Oc pre X post n bu o b c ho hX hn i k u w aa l m _ _ _ ?_ ?_ ?_ h r
  iterate 3 simp only[go_sem,f,g,p]
set_option maxHeartbeats 1000000 in
theorem ahe(i k u:Nat)(C:i+k=n)(hi:i<8)(f:u=bu/10^k)(p:u<10^i)(F:Fr)(H:af)(Q:Go.au.X→Fr→af→Prop)(h:rd 0 F=.slice b o n c)(l:rd 4 F=ah (i:Int))(r:rd 12 F=.int .u32 (u:Int))(m:H.get b=.cells (ko pre X post i (dp k bu)) 0)
 (s:∀g e,eH H e b (ko pre X post 0 (dp n bu))→Q .norm g e):bx AZ Q F H:=by
 have a5:u<100000000:=eG p (cy (gl ag (aa:i≤8)) ag);by_cases h2:4≤i
 ·obtain⟨j,rfl⟩:∃j,i=j+4:=⟨i-4,aa⟩;obtain⟨lo,A⟩:∃x,x=u%10000:=⟨_,rfl⟩;obtain⟨a,y⟩:∃x,x=lo%100:=⟨_,rfl⟩;obtain⟨d,z⟩:∃x,x=lo/100:=⟨_,rfl⟩;have t:a<100:=aa;have v:d<100:=aa;have T:bu/10^(k+2)=u/100:=by rw[f,gw,oX]
  have U:bu/10^(k+4)=u/10000:=by rw[f,gw,oX]
  have w:dp (k+2) bu=_:=vi k bu a (by rw[←f];omega);have q:dp (k+2+2) bu=_:=vi (k+2) bu d (by rw[T];omega);rw[w]at q;have V:m3 (u:Int) 10000=(lo:Int):=by rw[A];rfl
  have W:mg (u:Int) 10000=((u/10000:Nat):Int):=rfl;have Y:mg (lo:Int) 100=(d:Int):=by rw[z];rfl
  have Z:m3 (lo:Int) 100=(a:Int):=by rw[y];rfl
  have a1:¬(100:Int)=0:=ag;have a2:¬(10000:Int)=0:=ag;have k0:aC .u32 ((lo:Nat):Int)=(lo:Int):=gC _ aa;have k1:aC .u32 ((a:Nat):Int)=(a:Int):=gC _ aa;have L:aC .u32 ((u/10000:Nat):Int)=((u/10000:Nat):Int):=gC _ aa;have bA:aC .u32 ((d:Nat):Int)=(d:Int):=gC _ aa;have R:aC .u32 ((a:Int)*2)=((2*a:Nat):Int):=by rw[gC _ aa];omega
  have S:aC .u32 ((d:Int)*2)=((2*d:Nat):Int):=by rw[gC _ aa];omega
  have w0:aC .u32 (((2*a:Nat):Int)+1)=((2*a+1:Nat):Int):=by rw[gC _ aa];omega
  have w1:aC .u32 (((2*d:Nat):Int)+1)=((2*d+1:Nat):Int):=by rw[gC _ aa];omega
  have x0:=vB t;have y0:=vC t;have ar:=vB v;have y1:=vC v;have M:=fun D=>nt (pre:=pre) (X:=X) (post:=post) (D:=D) (i:=j+3) (o:=o) (d:=a%10) ho aa (eU _ ag)
  have N:=fun D=>nt (pre:=pre) (X:=X) (post:=post) (D:=D) (i:=j+2) (o:=o) (d:=a/10) ho aa aa
  have O:=fun D=>nt (pre:=pre) (X:=X) (post:=post) (D:=D) (i:=j+1) (o:=o) (d:=d%10) ho aa (eU _ ag)
  have P:=fun D=>nt (pre:=pre) (X:=X) (post:=post) (D:=D) (i:=j) (o:=o) (d:=d/10) ho aa aa
  have v1:aC .i64 (((j+4:Nat):Int)-1)=((j+4:Nat):Int)-1:=aH _ aa;have v2:aC .i64 (((j+4:Nat):Int)-2)=((j+4:Nat):Int)-2:=aH _ aa;have v3:aC .i64 (((j+4:Nat):Int)-3)=((j+4:Nat):Int)-3:=aH _ aa;have v4:aC .i64 (((j+4:Nat):Int)-4)=(j:Int):=by rw[aH _ aa];omega
  have G:=nk (b:=b) (o:=o) (n:=n) (c:=c) (k:=.i64) (x:=((j+4:Nat):Int)-1) (m:=j+3) aa aa;have I:=nk (b:=b) (o:=o) (n:=n) (c:=c) (k:=.i64) (x:=((j+4:Nat):Int)-2) (m:=j+2) aa aa;have J:=nk (b:=b) (o:=o) (n:=n) (c:=c) (k:=.i64) (x:=((j+4:Nat):Int)-3) (m:=j+1) aa aa;have K:=nk (b:=b) (o:=o) (n:=n) (c:=c) (k:=.i64) (x:=(j:Int)) (m:=j) rfl aa;have a4:¬((j+4:Nat):Int)<4:=aa;simp(disch:=assumption)only[go_sem,AZ,h,l,r,df,jG,mB,V,W,Y,Z,L,bA,R,S,w0,w1,x0,y0,ar,y1,v1,v2,v3,v4,G,I,J,K,m,M,N,O,P];have E:u/10000<10^j:=by
   rw[q8 ag,show(10000:Nat)=10^4 from rfl,←gw];exact p
  refine Od pre X post n bu o b c ho hX hn j (k+4) (u/10000) aa aa U.symm E _ _ _ ?_ ?_ ?_ ?_ ?_
  iterate 3 simp only[go_sem,h]
  ·rw[show k+4=k+2+2 from rfl,q,af.aK,ak rfl]
  ·intro g e B;exact s g e (((((eH.refl m).set _).set _).set _).set _|>.trans B)
 ·simp(disch:=omega)only[go_sem,AZ,l,dt];refine Od pre X post n bu o b c ho hX hn i k u C aa f p _ _ _ ?_ ?_ ?_ m s
  iterate 3 simp only[go_sem,h,l,r]
theorem Oe(s:bu<18446744073709551616)(r:bu<10^n)(H:af)(p:H.get b=.cells (cl (pre++X++post)) 0):c7 293 [.slice b o n c,ay (bu:Int)] H fun _ g=>eH H g b (cl (pre++dp n bu++post)):=by
 have q:H.get b=.cells (ko pre X post n []) 0:=by
  rw[p];unfold ko;rw[b_ aa,fG]
 refine aT akV ?_;simp(disch:=omega)only[go_sem,Kb,Kf];refine ahg pre X post n bu o b c ho hX hn s _ H _ ?_ ?_ ?_ q ?_
 iterate 3 simp only[go_sem]
 intro v x i k e hi h j l a;have f:bu/10^k<10^i:=by
  rw[q8 (fl ag),←gw,e];exact r
 have t:bu/10^k<100000000:=eG f (cy (gl ag (aa:i≤8)) ag);have u:aC .u32 ((bu/10^k:Nat):Int)=((bu/10^k:Nat):Int):=gC _ ⟨uR _,m0.2 (qe t ag)⟩;rw[fA];simp only[go_sem,Ke,j,u];refine ahe pre X post n bu o b c ho hX hn i k _ e hi rfl f _ _ _ ?_ ?_ ?_ a.at ?_
 iterate 3 simp only[go_sem,h,l]
 intro w y d;simp only[go_sem];have m:ko pre X post 0 (dp n bu)=cl (pre++dp n bu++post):=by unfold ko;rw[q6,fG]
 rw[m]at d;exact a.trans d
end
theorem amx:∀L:Fin 65,2^L.val≤10^(L.val*78913/262144+1)∧(L.val*78913/262144=0∨10^(L.val*78913/262144-1)≤2^(L.val-1))∧L.val*78913/262144<20:=ag
theorem aog:∀k:Fin 20,mQ.getD k.val 0=10^k.val:=ag
theorem amw(L:Nat)(c:L≤64):aW 350 [ah (L:Int)] (ah ((L*78913/262144:Nat):Int)):=by
 refine cO (.cons (.int _ _) .nil) (.int _ _) (aT ak9 ?_);have b:aC .i64 ((L:Int)*78913)=((L*78913:Nat):Int):=by rw[aH _ aa];omega
 have a:rR ((L*78913:Nat):Int) (dU 18 (gK .i64))=((L*78913/262144:Nat):Int):=rfl;simp only[go_sem,d350,acE,b,a]
theorem TL(x:Bool):aW 351 [.bool x] (ah (if x then 1 else 0)):=by
 refine cO (.cons (.bool _) .nil) (.int _ _) (aT ak_ ?_);cases x
 ·simp only[go_sem,d351,Mw,acF];rfl
 ·simp only[go_sem,d351,Mw]
variable{h:Nat}{u:Nat}
theorem ang(m:h=eK a)(o:1≤a)(p:h≤64)(n:u=h*78913/262144):a<10^(u+if 10^u≤a then 1 else 0)∧(u+if 10^u≤a then 1 else 0)=(dec a).length∧u<20:=by
 obtain⟨j,k,d⟩:=amx ⟨h,aa⟩;simp only[←n]at j k d;have f:=Pr a;have g:=Pq (n:=a) aa;rw[←m]at f g;by_cases c:10^u≤a
 ·rw[ak c];have b:a<10^(u+1):=eG f j;refine⟨b,?_,d⟩;rw[←xm (lf u) (.inr c) b,Fy]
 ·rw[aj c,cE];have b:a<10^u:=tI c;refine⟨b,?_,d⟩;have i:u≠0:=fun e=>by rw[e,nK]at b;omega
  have l:10^(u-1)≤a:=cy (k.resolve_left i) g;rw[←xm (ld i) (.inr l) b,Fy]
theorem P8(u:Nat)(l:1≤u)(i:u<18446744073709551616):c4 292 [ay (u:Int)] (ah (((dec u).length:Nat):Int)):=by
 refine dm (.cons (.int _ _) .nil) (aT akU ?_);have a:eK u≤64:=B8 i;obtain⟨L,c⟩:∃L,L=eK u:=⟨_,rfl⟩;have f:=Pp u i;rw[←c]at a f;obtain⟨k,d⟩:∃k,k=L*78913/262144:=⟨_,rfl⟩;have g:=amw L a;rw[←d]at g;obtain⟨_,p,b⟩:=ang c l a d;have h:=aog ⟨k,b⟩;simp only at h;simp(disch:=omega)only[go_sem,d292,aa9];refine use f ?_;simp(disch:=omega)only[go_sem];refine use g ?_;have m:dJ (some 20) 1 [.ptr 0 0,ah (k:Int)]=some (.val (.ptr 0 k)):=by
  rw[OO aa,bJ,dK,dF]
 have j:=fB.mQ;have n:cK (wo mQ) k=some (ay ((10^k:Nat):Int)):=by
  rw[gF,wo,iy,cn (show k<mQ.length from b),←h,bX,cn (show k<mQ.length from b)];rfl
 have o:aC .i64 ((k:Int)+(if(!decide (((u:Nat):Int)<((10^k:Nat):Int)))=true then 1 else 0))=(((dec u).length:Nat):Int):=by
  rw[←p];by_cases e:10^k≤u
  ·rw[ak e,aZ aa,ak ag,aH _ aa];rfl
  ·rw[aj e,bk aa,aj ag,aH _ aa];rfl
 simp(disch:=omega)only[go_sem,aa8,m,j,n];refine use (TL _) ?_;simp only[go_sem,o];exact bZ fB rfl (.int _ _)
theorem aqk:∀n:Fin 10,(Bi.drop n.val).take 1=dp 1 n.val:=ag
theorem aql:∀n:Fin 100,(j8.drop (n.val*2)).take 2=dp 2 n.val:=ag
variable{q:Int}
theorem RY{a:IntKind}{h:Int}(b:0≤q∧q≤h∧h≤j.length):slice3 k4 true true false [.str j,.int n q,.int a h]=some (.val (.str ((j.drop q.toNat).take (h.toNat-q.toNat)))):=by
 show v9 j (some (.int n q)) (some (.int a h))=_;exact HT (sA (mw n b.1) (mw a aa) aa aa) aa aa
theorem RR(n:Nat)(h:n<100):aW 291 [ah (n:Int)] (.str (dec n)):=by
 refine cO (.cons (.int _ _) .nil) (.str _) (aT akT ?_);by_cases b:n<10
 ·have a:slice3 k4 true true false [.str Bi,ah (n:Int),ah ((n:Int)+1)]=some (.val (.str (dec n))):=by
   have hl:(Bi.length:Int)=36:=rfl;rw[RY aa,bJ,(aa:((n:Int)+1).toNat-n=1)];rw[aqk ⟨n,b⟩,xm ag (.inl rfl) (by simpa using b)]
  simp(disch:=omega)only[go_sem,D7,D8,dt,aH,a]
 ·have a:slice3 k4 true true false [.str j8,ah ((n:Int)*2),ah ((n:Int)*2+2)]=some (.val (.str (dec n))):=by
   have hl:(j8.length:Int)=200:=rfl;rw[RY aa,(aa:((n:Int)*2+2).toNat-((n:Int)*2).toNat=2),(aa:((n:Int)*2).toNat=n*2)];rw[aql ⟨n,h⟩,xm ag (.inr (by show 10^1≤n;omega)) (by show n<10^2;omega)]
  simp(disch:=omega)only[go_sem,D7,D8,Ka,df,aH,a]
theorem HS:slice3 (nB a h) false true false [.ptr u 0,.int n q]=slice3 (j7 h) false true false [.slice u 0 a (.known a),.int n q]:=rfl
theorem ap7{c:IntKind}{b:Int}:slice3 (nB a h) true true false [.ptr u 0,.int n q,.int c b]=slice3 (j7 h) true true false [.slice u 0 a (.known a),.int n q,.int c b]:=rfl
inductive fm (H:af):V→List UInt8→Nat→Nat→Bool→Prop
 |rF {v:V}{l:List UInt8}{g m:Nat} (h:aI H 1 v (cl l) g) (hm:m≤1000000000):fm H v l g m false
 |bg {b n:Nat}{l rest:List UInt8} (hb:H.get b=.cells (cl (l++rest)) 0) (hn:l.length+rest.length=n) (h0:b<H.next) (h5:b≠0) (hm:n≤1000000000):fm H (.slice b 0 l.length (.known n)) l b n true
structure iZ (k k':Nat) (H H':af):Prop where
 key:k'=k∨k=0∧H.next<k'
 keep:∀y,y<H.next→(k=0∨y≠k)→H'.get y=H.get y
 next:H.next≤H'.next
theorem iZ.refl(k:Nat)(H:af):iZ k k H H:=⟨.inl rfl,fun _ _ _=>rfl,aE _⟩
variable{c:af}{H:af}
theorem iZ.trans{g:af}(d:iZ a h c H)(h':iZ h u H g):iZ a u c g:=by
 have m:=d.next
 refine⟨?_,fun y l i=>?_,cy d.next h'.next⟩
 ·rcases d.key with e|⟨e,j⟩
  ·rcases h'.key with f|⟨f,k⟩
   ·exact .inl aa
   ·exact .inr ⟨aa,aa⟩
  ·rcases h'.key with f|⟨f,k⟩
   ·exact .inr ⟨e,aa⟩
   ·omega
 ·rw[←d.keep y l i];refine h'.keep y aa ?_;rcases d.key with e|⟨e,j⟩
  ·rw[e];exact i
  ·exact .inr aa
theorem iZ.after{H d:af}(b:iZ a h c d)(f:∀y,y<H.next→c.get y=H.get y)(i:H.next≤c.next):iZ a h H d:=by
 refine⟨?_,fun y j g=>(b.keep y aa g).trans (f y j),cy i b.next⟩
 rcases b.key with e|⟨e,k⟩
 ·exact .inl e
 ·exact .inr ⟨e,aa⟩
variable{p:Bool}
theorem fm.low{v:V}{key:Nat}(h:fm c v j key a p)(e:∀z,z<c.next→H.get z=c.get z)(f:c.next≤H.next):fm H v j key a p:=by
 cases h with
 |rF h b=>exact .rF (h.low e f) b
 |bg i hl d g b=>exact .bg (by rw[e _ d];exact i) hl (eG d f) g b
theorem fm.push{v:V}{key:Nat}(h:fm c v j key a p)(o:cP):fm (c.push o) v j key a p:=
 h.low (fun z b=>by rw[af.bf,aj aa]) (sr _)
theorem rq(l m:List UInt8):cl (l++m)=cl l++cl m:=by simp[cl]
theorem Jf(l:List UInt8):cG (cl l)=true:=rj.2 fun v h=>by
 simp only[cl,k_]at h;obtain⟨c,_,rfl⟩:=h;rfl
theorem ahc:dS c 1 j.length (.str j)=some (cl j):=by
 show aQ (bn 1 1) (ao (cq j j.length) fun t=>some (lmap (fun b=>V.int .u8 (.ofNat b.toNat)) t))=_;rw[e4,ak (aE _),b_ (aE _)];show some (lmap (fun b=>V.int .u8 (.ofNat b.toNat)) j)=_;congr 1;induction j with
 |nil=>rfl
 |cons a j d=>exact congrArg (List.cons _) d
variable{m:Fr}{i:Option Nat}{e:Fr→af→Prop}
theorem At{v x:V}{s:List UInt8}{key:Nat}(h:fm c v j key a p)(t:kX x=some s.length)(u:dS c 1 s.length x=some (cl s))(r:s.length≠0)(F:j.length+s.length≤a)(b7:c.next≠0)
 (z:∀k f A,fm f k (j++s) A a p→iZ key A c f→e (put m i k) f):gj i e m (fH 1 1 [v,x] c):=by
 cases h with
 |rF h l=>
  refine NA (bytes:=1) h t u r (by rw[jc,dF]) ag (Jf s) ⟨by rw[jc,jc];omega,ag⟩ b7 ?_;intro k f C K L bA R;refine z k f C (.rF (by rw[rq];exact K) l) ⟨?_,bA,aa⟩;rcases L with⟨g,q⟩|⟨_,g⟩
  ·exact .inr ⟨g,aa⟩
  ·exact .inl g
 |bg D hl E w l=>
  rename_i o;obtain⟨d,b,rfl,G⟩:∃d b,o=d++b∧d.length=s.length:=⟨o.take s.length,o.drop s.length,(p9 _ _).symm,g6 aa⟩;have q:fH 1 1 [.slice key 0 j.length (.known a),x] c=some (.slice key 0 (j++s).length (.known a),c.set key (.cells (cl (j++s++b)) 0)):=by
   show ao (kX x) (fun n=>ao (dS c 1 n x) fun M=>jX 1 1 (.slice key 0 j.length (.known a)) n M c)=_;rw[t];show ao (dS c 1 s.length x) _=_;rw[u];show Bool.casesOn (motive:=fun _=>Option (V×af)) (fh s.length) (aQ (je (j.length+s.length) 1) (Bool.casesOn (motive:=fun _=>Option (V×af)) (bM (j.length+s.length) a) (ao (c.cS key 0 (j.length*1)) fun N=>lz c 1 (j.length+s.length) (cW N (cl s))) (ao (c.e5 key (0+j.length*1) (cl s)) fun c=>some (V.slice key 0 (j.length+s.length) (.known a),c)))) (some (.slice key 0 j.length (.known a),c))=_;have I:c.e5 key (0+j.length*1) (cl s)=some (c.set key (.cells (cl (j++s++b)) 0)):=by
    unfold af.e5;rw[D];show aQ (cG (cl s)) (ao (cC (cl s) (cl (j++(d++b))) (0+j.length*1)) fun B=>some (c.set key (.cells B 0)))=_;rw[Jf];have H:cC (cl s) (cl (j++(d++b))) (0+j.length*1)=some (cl (j++s++b)):=by
     rw[lC,ak (by rw[jc,jc];simp;omega)];congr 1;rw[dK,dF,jc];have O:(cl (j++(d++b))).take j.length=cl j:=by rw[rq,←jc j,p_]
     have P:(cl (j++(d++b))).drop (j.length+s.length)=cl b:=by
      rw[←eJ,rq,show j.length+s.length=(cl (j++d)).length by rw[jc,aS,G],uS]
     rw[O,P,rq,rq]
    rw[H];rfl
   rw[rH r,qq ⟨aa,aa⟩,jH F,I,aS];rfl
  rw[q];refine z _ _ key (.bg (rest:=b) (by rw[af.aK,ak rfl]) (by simp at hl⊢;omega) E w l) ⟨.inl rfl,fun y Q J=>?_,aE _⟩;rw[af.aK,aj (fun g=>(J.resolve_left w) g.symm)]
theorem dec_lt(u:Nat):u<10^(dec u).length:=by
 have:=ow (dec u) (o8 u);rw[nR]at this;exact this
theorem tQ(u:Nat):0<(dec u).length:=by
 have:=o9 u;cases h:dec u with
 |nil=>exact absurd h this
 |cons a l=>simp
theorem Nr(u:Nat):dp (dec u).length u=dec u:=by
 refine xm (tQ u) ?_ (dec_lt u);by_cases a:(dec u).length=1
 ·exact .inl a
 ·refine .inr (jC fun d=>?_);have f:=tQ u;have b:u≠0:=fun e=>by rw[e]at a;exact a rfl
  have c:dec u=ds u:=aj b;have:=qn d;rw[←c]at this;omega
theorem Nk(h:a<18446744073709551616):(dec a).length≤20:=by
 unfold dec;split
 ·decide
 ·exact qn (k:=20) (qe h ag)
theorem IF:[V.int .u8 0,.int .u8 0,.int .u8 0,.int .u8 0,.int .u8 0,.int .u8 0,.int .u8 0,.int .u8 0,.int .u8 0,.int .u8 0,.int .u8 0,.int .u8 0,.int .u8 0,.int .u8 0,.int .u8 0,.int .u8 0,.int .u8 0,.int .u8 0,.int .u8 0,.int .u8 0,.int .u8 0,.int .u8 0,.int .u8 0,.int .u8 0]=cl (aX 24 0):=rfl
theorem apg(b:a≤h):aX h (0:UInt8)=[]++aX a 0++aX (h-a) 0:=by
 rw[eI,List.replicate_append_replicate,Nat.add_sub_cancel' b]
variable{f:Type}
theorem amo(l:List f):cr l=l.length:=by
 induction l with
 |nil=>rfl
 |cons a l b=>show Nat.succ (cr l)=_;rw[b];rfl
theorem BS(b:iZ a h c H)(d:GT c)(e:5≤c.next)(f:a=0∨5≤a):GT H:=d.keep fun y g=>b.keep y aa aa
theorem To(u:Nat)(e:u<18446744073709551616){v:V}{key:Nat}(H:af)(hT:fm H v j key a p)(k:j.length+(dec u).length≤a)(r:GT H)(q:5≤H.next):c7 295 [v,ay (u:Int),ah 10] H fun w h=>∃b,fm h w (j++dec u) b a p∧iZ key b H h:=by
 refine o6 Go.Proofs.YtddhncjmaahodaaGreatDoor.hT b7 fY O1.1 O1.2 rfl ?_;have A:=tQ u;by_cases n:u<100
 ·have x:aC .i64 ((u:Nat):Int)=(u:Int):=aH _ aa;simp(disch:=omega)only[go_sem,d295,L6,decide_true,dt,x];refine use (RR u n) ?_;simp only[go_sem];refine At hT (s:=dec u) (by show some (cr (dec u))=_;rw[amo]) ahc aa k aa ?_;intro t m b f g;simp only[go_sem];exact⟨b,f,g⟩
 ·have o:=Nk e;simp(disch:=omega)only[go_sem,d295,L6,decide_true,df];rw[IF];refine bL (P8 u aa e) (r.push q _) ?_;have l:slice3 (nB 24 1) false true false [.ptr H.next 0,ah (((dec u).length:Nat):Int)]=some (.val (.slice H.next 0 (dec u).length (.known 24))):=by
   rw[HS,v8 aa,bJ]
  simp only[go_sem,l];refine(Oe [] (aX (dec u).length 0) (aX (24-(dec u).length) 0) (dec u).length u 0 H.next (.known 24) rfl (wJ ..) o e (dec_lt u) _ ?_).mono ?_
  ·rw[af.bf,ak rfl,apg (aa:(dec u).length≤24)]
  rintro _ d c;rw[Nr,eI]at c;have s:=c.at;have i:∀y,y<H.next→d.get y=H.get y:=fun y B=>by rw[c.get,aj aa,af.bf,aj aa]
  have z:d.next=H.next+1:=c.next
  simp only[go_sem,l];refine At (hT.low i aa) (s:=dec u) rfl ?_ aa k aa ?_
  ·show d.cS H.next 0 ((dec u).length*1)=_
   rw[fJ s,c_,dF,rq,e4,ak (by rw[aS,jc];omega),yM (by rw[jc];exact aE _),b_ (by rw[jc];exact aE _)]
  intro t m b f g;simp only[go_sem];exact⟨b,f,g.after i aa⟩
theorem Jh(u:Nat)(h:u<18446744073709551616){v:V}{key:Nat}(H:af)(hT:fm H v j key a p)(g:j.length+(dec u).length≤a)(f:GT H)(e:5≤H.next):c7 296 [v,ay (u:Int),ah 10] H fun d c=>∃b,fm c d (j++dec u) b a p∧iZ key b H c:=by
 refine o6 Go.Proofs.YtddhncjmaahodaaGreatDoor.hT b7 fY O2.1 O2.2 rfl ?_;simp only[go_sem,d296,aa_];refine(To u h H hT g f e).mono ?_;rintro d c ⟨b,i,k⟩;simp only[go_sem];exact⟨b,i,k⟩
def zt(z:Int):List UInt8:=(if z<0 then [45]else [])++dec z.natAbs
theorem SM(h:q<0):zt q=45::dec q.natAbs:=by unfold zt;rw[ak h];rfl
theorem Dj(h:¬q<0):zt q=dec q.natAbs:=by unfold zt;rw[aj h];rfl
theorem C7{H:af}{v:V}{key:Nat}(h:fm H v j key a p)(c:UInt8)(k:j.length+1≤a)(b7:H.next≠0)(l:q=(c.toNat:Int))
 (g:∀f b d,fm b f (j++[c]) d a p→iZ key d H b→e (put m i f) b):gj i e m (fH 1 1 [v,.slice H.next 0 1 (.known 1)] (H.push (.cells [.int .u8 q] 0))):=by
 subst l;refine At (h.push _) (s:=[c]) rfl ?_ (uY _) k (by show H.next+1≠0;omega) ?_
 ·show(H.push (.cells [V.int .u8 (c.toNat:Int)] 0)).cS H.next 0 (1*1)=some (cl [c])
  rw[fJ (cs:=cl [c]) (by rw[af.bf,ak rfl];rfl),c_];rfl
 ·intro f b d n o;exact g f b d n (o.after (fun y r=>by rw[af.bf,aj aa]) (sr _))
theorem aph(h:a≤20):aX 24 (0:UInt8)=[0]++aX a 0++aX (23-a) 0:=by
 rw[show([0]:List UInt8)=aX 1 0 from rfl,List.replicate_append_replicate,List.replicate_append_replicate,(aa:1+a+(23-a)=24)]
theorem Ih{H:af}{o n:Nat}{c:Cap}{pre s post:List UInt8}(h:H.get a=.cells (cl (pre++s++post)) 0)(e:pre.length=o)(d:s.length=n):tg [.slice a o n c] H=some (.str s):=by
 show ao (H.cS a o n) (fun b=>ao (bytesOf b) fun s=>some (V.str s))=_;have hl:H.cS a o n=some (cl s):=by
  unfold af.cS af.cells?;rw[h];show cq (eC (cl (pre++s++post)) o) n=_;rw[kG,eJ,rq,←e,←jc pre,uS,rq,e4,ak (by rw[aS,jc];omega),←d,←jc s,p_]
 rw[hl];show ao (bytesOf (cl s)) _=_;rw[D6];rfl
theorem ahj(z:Int)(F: -9223372036854775808≤z∧z<9223372036854775808):c4 229 [ah z,ah 10] (.str (zt z)):=by
 refine dm (.cons (.int _ _) (.cons (.int _ _) .nil)) (o6 Go.Proofs.YtddhncjmaahodaaGreatDoor.hT b7 fY OY.1 OY.2 rfl ?_);obtain⟨u,E⟩:∃u,u=z.natAbs:=⟨_,rfl⟩;by_cases m:0≤z∧z<100
 ·obtain⟨B,m⟩:=m;have c:¬z<0:=aa;have b:z=(u:Int):=aa;subst b;simp(disch:=omega)only[go_sem,d229,EF,decide_true,dt,df];refine use (RR u aa) ?_;simp only[go_sem];rw[Dj c,dB];exact bZ fB rfl (.str _)
 ·have w:1≤u:=aa;have k:u<18446744073709551616:=aa;have D:=tQ u;have n:=Nk k;have p:=P8 u w k;have f:aC .i64 ((1:Int)+(((dec u).length:Nat):Int))=((1+(dec u).length:Nat):Int):=by rw[aH _ aa];omega
  have j:slice3 (nB 24 1) true true false [.ptr 5 0,ah 1,ah ((1+(dec u).length:Nat):Int)]=some (.val (.slice 5 1 (dec u).length (.known 23))):=by
   rw[ap7,CO aa];congr 3;omega
  have t:slice3 (nB 24 1) false true false [.ptr 5 0,ah ((1+(dec u).length:Nat):Int)]=some (.val (.slice 5 0 (1+(dec u).length) (.known 24))):=by
   rw[HS,v8 aa,bJ]
  have e:GT (cZ.push (.cells (cl (aX 24 0)) 0)):=fB.push ag _;have r:(cZ.push (.cells (cl (aX 24 0)) 0)).get 5=.cells (cl ([0]++aX (dec u).length 0++aX (23-(dec u).length) 0)) 0:=by
   rw[af.bf,ak PY,aph n]
  have g:=Oe [0] (aX (dec u).length 0) (aX (23-(dec u).length) 0) (dec u).length u 1 5 (.known 23) rfl (wJ ..) n k (dec_lt u) _ r;rw[Nr]at g;by_cases c:z<0
  ·have b:z= -(u:Int):=aa;subst b;have l:aC .u64 (-(u:Int))=((18446744073709551616-u:Nat):Int):=by rw[hJ];omega
   have A:aC .u64 (-((18446744073709551616-u:Nat):Int))=(u:Int):=by rw[hJ];omega
   have C:(-(u:Int))<0:=c;simp(disch:=omega)only[go_sem,d229,EF,decide_true,dt,l,A];rw[IF];refine bL p e ?_;simp(disch:=omega)only[go_sem,f,j];refine g.mono ?_;rintro _ d a;have q:=a.at;have s:dJ (some 24) 1 [.ptr 5 0,ah 0]=some (.val (.ptr 5 0)):=rfl;have v:cC [V.int .u8 45] (cl ([0]++dec u++aX (23-(dec u).length) 0)) 0=some (cl ([45]++dec u++aX (23-(dec u).length) 0)):=by
    rw[e9 (by rw[jc];simp)];rfl
   have o:=a.set (cl ([45]++dec u++aX (23-(dec u).length) 0));have i:=Ih (c:=.known 24) (pre:=[]) (s:=[45]++dec u) (post:=aX (23-(dec u).length) 0) (H:=d.set 5 (.cells (cl ([45]++dec u++aX (23-(dec u).length) 0)) 0)) (o:=0) (n:=1+(dec u).length) o.at rfl (by simp;omega);have h:GT (d.set 5 (.cells (cl ([45]++dec u++aX (23-(dec u).length) 0)) 0)):=e.keep fun y x=>by rw[o.get,aj aa]
   simp(disch:=omega)only[go_sem,dt,s,q,v,f,t,i];refine bZ h ?_ (.str _);rw[SM c,mZ,dB];rfl
  ·have b:z=(u:Int):=aa;subst b;have l:aC .u64 ((u:Nat):Int)=(u:Int):=bW _ aa;simp(disch:=omega)only[go_sem,d229,EF,decide_true,df,l];rw[IF];refine bL p e ?_;simp(disch:=omega)only[go_sem,f,j];refine g.mono ?_;rintro _ d a;have i:=Ih (c:=.known 23) (o:=1) a.at rfl (n:=(dec u).length) rfl;have h:GT d:=e.keep fun y x=>by rw[a.get,aj aa]
   simp(disch:=omega)only[go_sem,df,f,j,i];refine bZ h ?_ (.str _);rw[Dj c,dB]
theorem ahf(z:Int)(a: -9223372036854775808≤z∧z<9223372036854775808):c4 161 [ah z,ah 10] (.str (zt z)):=by
 refine dm (.cons (.int _ _) (.cons (.int _ _) .nil)) (o6 Go.Proofs.YtddhncjmaahodaaGreatDoor.hT b7 fY OT.1 OT.2 rfl ?_);simp only[go_sem,d161,XZ];refine bL (ahj z a) fB ?_;simp only[go_sem];exact bZ fB rfl (.str _)
theorem Ns:∀k c,(dec c).length≤k→c<10^k→dp k c=aX (k-(dec c).length) 48++dec c
 |0,c,h,_=>by
  have:=o9 c;cases e:dec c with
  |nil=>exact absurd e this
  |cons a l=>rw[e]at h;simp at h
 |k+1,c,h,j=>by
  by_cases b:(dec c).length=k+1
  ·rw[b,m6,p8,eI];have m:1≤k+1:=lf k;refine xm m ?_ j;by_cases n:k=0
   ·exact .inl aa
   ·refine .inr (jC fun f=>?_);rw[qb]at f;have g:c≠0:=fun e=>by rw[e]at b;have:(dec 0).length=1:=rfl;omega
    have i:dec c=ds c:=aj g;have:=qn f;rw[←i]at this;omega
  ·have hl:(dec c).length≤k:=aa;have d:c<10^k:=eG (dec_lt c) (gl ag hl);rw[dp,m4 d,Ns k c hl d,(aa:k+1-(dec c).length=k-(dec c).length+1),p7];rfl
theorem arY(M a:List Nat)(n b g:Nat)(hn:a.length=n)(P:M.take n=a)(ok:W.aA a)(hl:n<1000000)(F:Fr)(H:af)(R:Go.au.X→Fr→af→Prop)(O:cI H b g (aL M))(K:rd 7 F=.slice b 0 n (.grown 1))(L:rd 9 F=ay 0)(J:rd 10 F=ah ((n:Int)-1))
 (Q:∀s z c,(∀t,t<16→t≠9→t≠10→rd t s=rd t F)→rd 9 s=ay ((W.val a%10000000000000000000:Nat):Int)→c.length=n→W.aA c→W.val c=W.val a/10000000000000000000→mq H z b g (aL (c++M.drop n))→R (.exit 2) s z):bx (.loop (pc 354 2)) R F H:=by
 have l:(0:Nat)<10000000000000000000∧10000000000000000000<18446744073709551616:=ag
 refine bH (fun j h e=>∃(r:Nat) (c:List Nat),j≤n∧(∀t,t<16→t≠9→t≠10→rd t h=rd t F)∧rd 9 h=ay (r:Int)∧rd 10 h=ah ((j:Int)-1)∧W.aA c∧c.length=n-j∧r<10000000000000000000∧W.val c*10000000000000000000+r=W.val (a.drop j)∧mq H e b g (aL (a.take j++c++M.drop n))) n
  ⟨0,[],aE _,fun _ _ _ _=>rfl,L,J,W.aA.nil,aB,ag,by rw[jB aa];simp[W.val],?_⟩ ?_
 ·rw[b_ aa,fG,←P,p9];exact mq.refl O
 rintro j h e ⟨r,c,hj,w,A,k,I,ap,o,p,f⟩;have N:=(w 7 ag ag ag).trans K;rw[acM];cases j with
 |zero=>
  simp(disch:=omega)only[go_sem,k,dt];rw[List.drop_zero]at p;rw[q6,eI]at f;refine Q _ _ c (fun t u d v=>?_) ?_ aa I ?_ f
  ·simp(disch:=omega)only[bV];exact w t u d v
  ·simp only[go_sem,A];rw[←p,bK,Nat.mul_add_mod,jV o]
  ·rw[←p,bK,Nat.mul_add_div l.1,m4 o,cE]
 |succ i=>
  have G:=ok.getD i;have hi:(((i+1:Nat):Int)-1)=(i:Int):=aa;rw[hi]at k;have E:=IA l.1 o G;have D:=eU (r*18446744073709551616+a.getD i 0) l.1;have d:=jm (r*18446744073709551616+a.getD i 0) 10000000000000000000;have m:=Bk r (a.getD i 0) 10000000000000000000 o G l.2;have ac:a.take (i+1)=a.take i++[a.getD i 0]:=wh aa;have S:=W.uK (l:=a) (i:=i) aa;generalize(r*18446744073709551616+a.getD i 0)/10000000000000000000=q at E d m
  generalize(r*18446744073709551616+a.getD i 0)%10000000000000000000=r' at D d m
  generalize a.getD i 0=x at*
  have y:(a.take i).length=i:=g6 aa;have Y:a.take i++[x]++c++M.drop n=a.take i++x::(c++M.drop n):=aB;rw[ac,Y]at f;have B:=f.mJ;have C:i<(a.take i++x::(c++M.drop n)).length:=by rw[aS,y];simp
  have T:=qu (es:=c++M.drop n) (e:=x) y;have U:iq false 1 [.ptr b i] e=some (ay (x:Int)):=by rw[sR B,dw C,T]
  have ab:oL 1 [.ptr b i,ay (q:Int)] e=some (V.undef,af.wr e b g (aL (a.take i++q::(c++M.drop n)))):=by
   rw[ym B (by rw[eM];exact C),kj,l9 y]
  have Z:((10000000000000000000:Nat):Int)=10000000000000000000:=rfl;rw[Z]at m;simp(disch:=omega)only[go_sem,acH,N,A,k,df,b3,bJ,U];refine use m ?_;simp(disch:=omega)only[go_sem,acG,k,b3,bJ,ab,aH];refine⟨i,aa,r',q::c,aa,fun t u d v=>?_,?_,?_,.mk E I,by simp;omega,D,?_,?_⟩
  ·simp(disch:=omega)only[bV];exact w t u d v
  iterate 2 simp only[go_sem]
  ·rw[S];exact Iz d p
  ·have:=f.wr (aL (a.take i++q::(c++M.drop n)));simpa using this
def e6:Nat:=10000000000000000000
def ou(n i:Nat):Nat:=n/e6^i%e6
theorem KE(n i:Nat):ou n i<e6:=eU _ ag
variable{b:List V}{L:Nat}
theorem aI.apart{v:V}{l:List V}(q:aI c a v b h)(d:cI c u L l)(k:h≠L)(j:∀y,y≠u→y≠L→H.get y=c.get y)(x:c.next≤H.next):aI H a v b h:=by
 cases q with
 |nil=>exact .nil
 |cells kb g aR s t B A=>
  rename_i i m f;obtain⟨w,r,z⟩:=d.bB;have n:i≠u:=fun e=>by
   rw[e,d.row]at kb;cases kb;exact k rfl
  have o:i≠L:=fun e=>by rw[e,r]at kb;cases kb
  have p:h≠u:=fun e=>by rw[e,d.row]at g;cases g
  exact .cells (by rw[j _ n o];exact kb) (by rw[j _ p k];exact g) aR s t aa aa
theorem aI.ani{v:V}(h:aI c 1 v b a)(d:b.length≠0):a≠0:=by
 cases h with
 |nil=>exact absurd rfl d
 |cells kb g aR e j i f=>exact e
theorem aI.Ig{v:V}(h:aI c 1 v b a)(g:a≠0):∃d,v=.slice d 0 b.length (.grown 1)∧cI c d a b∧d<c.next∧a<c.next:=by
 cases h with
 |nil=>exact absurd rfl g
 |cells kb k aR i m l j=>
  rename_i d n f;have e:n=b.length:=aa;subst e;exact⟨d,rfl,⟨kb,⟨f,k,aR⟩,i⟩,j,l⟩
variable{d:List Nat}
theorem NG{v:V}(p:aI c 1 v (aL d) a)(x:Nat)(B:d.length<1000000)
 (q:∀g n,aI g 1 (.slice (c.next+1) 0 (d.length+1) (.grown 1)) (aL (d++[x])) n→(a=0∧c.next<n∨a≠0∧n=a)→(∀y,y<c.next→(a=0∨y≠a)→g.get y=c.get y)→c.next<g.next→e (put m i (.slice (c.next+1) 0 (d.length+1) (.grown 1))) g):
 gj i e m (fH 1 8 [v,.slice c.next 0 1 (.known 1)] (c.push (.cells [ay (x:Int)] 0))):=by
 by_cases h:a=0
 ·have k:v=.an∧d=[]:=by
   generalize F:aL d=M at p
   cases p with
   |nil=>exact⟨rfl,List.length_eq_zero_iff.1 (by rw[←eM d,F];rfl)⟩
   |cells _ _ _ J _ _ _=>exact absurd h J
  obtain⟨rfl,rfl⟩:=k;obtain⟨H1,j⟩:∃H1,H1=c.push (.cells [ay (x:Int)] 0):=⟨_,rfl⟩;have D:∀y,y<c.next→H1.get y=c.get y:=fun y l=>by rw[j,af.bf,aj aa]
  have E:H1.get c.next=.cells [ay (x:Int)] 0:=by rw[j,af.bf,ak rfl]
  have r:H1.next=c.next+1:=by rw[j];rfl
  rw[←j];have A:dS H1 1 1 (.slice c.next 0 1 (.known 1))=some [ay (x:Int)]:=by
   show H1.cS c.next 0 (1*1)=_
   rw[fJ E,c_];rfl
  have t:fH 1 8 [.an,.slice c.next 0 1 (.known 1)] H1=some (.slice H1.next 0 1 (.grown 1),(H1.push (.cells [ay (x:Int)] (Nat.succ H1.next))).push (.bB H1.next H1.next)):=by
   show ao (some 1) (fun s=>ao (dS H1 1 s (.slice c.next 0 1 (.known 1))) fun K=>jX 1 8 .an s K H1)=_
   show ao (dS H1 1 1 (.slice c.next 0 1 (.known 1))) _=_
   rw[A];rfl
  rw[t,r];refine q _ (c.next+2) ?_ (.inl ⟨h,aa⟩) (fun y l _=>?_) ?_
  ·refine .cells (f:=c.next+1) ?_ ?_ (aE _) aa rfl ?_ ?_
   ·rw[af.bf,aj (by show¬(H1.next+1=c.next+1);omega),af.bf,ak r];rfl
   ·rw[af.bf,ak (by show H1.next+1=c.next+2;omega)]
   ·show c.next+2<H1.next+1+1;omega
   ·show c.next+1<H1.next+1+1;omega
  ·rw[af.bf,aj (by show¬(H1.next+1=y);omega),af.bf,aj aa]
   exact D y l
  ·show c.next<H1.next+1+1;omega
 ·obtain⟨b,k,w,z,C⟩:=aI.Ig p h;rw[eM]at k;subst k;refine ND w (b_ (aE _)) rfl B z C x ?_;intro g o u L;obtain⟨f,H,I⟩:=o.bB;refine q g a (.cells o.row H I o.ne (by rw[eM];simp) aa aa) (.inr ⟨h,rfl⟩) (fun y l G=>u y l (G.resolve_left h)) aa
theorem Ux(n a p x:Nat)(o:List Nat)(ci:n≠0)(cf:(aq n).length<40)(F:Fr)(H:af)(R:Go.au.X→Fr→af→Prop)(ap:rd 7 F=.slice p 0 (aq n).length (.grown 1))(ar:rd 8 F=.an)(a2:cI H p x (aL o))(a3:o.take (aq n).length=aq n)(bs:W.aA o)(a4:o.length<1000000)(P:a≤p∧p<H.next)(Q:a≤x∧x<H.next)(b7:1≤a)
 (hR:∀z u k cJ d,(∀t,t<7→rd t z=rd t F)→n/e6^(k+1)=0→n/e6^k≠0→k<100→rd 8 z=cJ→aI u 1 cJ (aL ((oW (k+1)).map (ou n))) d→(∀b m c,cJ=.slice b 0 m c→a≤b)→a≤d→(∀y,y<a→u.get y=H.get y)→a≤u.next→R (.exit 0) z u):bx (.loop (pc 354 7)) R F H:=by
 refine bH (fun w s f=>∃(i b g d:Nat) (M:List Nat) (cJ:V),rd 7 s=.slice b 0 (aq w).length (.grown 1)∧cI f b g (aL M)∧M.take (aq w).length=aq w∧W.aA M∧M.length<1000000∧a≤b∧b<f.next∧a≤g∧g<f.next∧w=n/e6^i∧rd 8 s=cJ∧aI f 1 cJ (aL ((oW i).map (ou n))) d∧d≠g∧(d=0∨a≤d)∧(∀b m c,cJ=.slice b 0 m c→a≤b)∧(∀t,t<7→rd t s=rd t F)∧(∀y,y<a→f.get y=H.get y)∧(i=0∨n/e6^(i-1)≠0)) n
  ⟨0,p,x,0,o,.an,ap,a2,a3,bs,a4,P.1,P.2,Q.1,Q.2,by rw[nK,qc],ar,.nil,aa,.inl rfl,fun _ _ _ h=>(by cases h),fun _ _=>rfl,fun _ _=>rfl,.inl rfl⟩ ?_
 rintro w s f ⟨i,b,g,d,M,cJ,v,N,O,bv,b2,a6,ca,a',cb,l,J,C,D,S,a8,L,U,Y⟩;have bj:w≤n:=by rw[l];exact jn _ _
 have ch:=lP bj;have ce:i<101:=by
  rcases Y with h|h
  ·omega
  ·refine tI fun h1=>h ?_
   have h2:n<e6^(i-1):=by
    refine eG (nS n) ?_;have K:(18446744073709551616:Nat)^(aq n).length≤(e6^2)^(aq n).length:=wN ag _;rw[←Nat.pow_mul]at K;exact cy K (gl ag aa)
   exact m4 h2
 rw[acY];by_cases q:w=0
 ·have bc:(aq w).length=0:=by rw[q,jY];rfl
  simp(disch:=omega)only[go_sem,v,df];have cd:i≠0:=fun e=>by rw[e,nK,qc]at l;omega
  obtain⟨k,rfl⟩:∃k,i=k+1:=⟨i-1,aa⟩;have ba:a≤d:=by
   exact S.resolve_left (aI.ani C (by rw[eM];simp))
  refine hR _ _ k cJ d (fun t E=>?_) (by rw[←l];exact q) (Y.resolve_left (uY k)) aa ?_ C a8 ba U aa
  ·simp(disch:=omega)only[bV];exact L t E
  ·simp only[go_sem,J]
 ·have bc:=(jd w).2 q;simp(disch:=omega)only[go_sem,acX,acW,v,dt,aH];refine arY M (aq w) (aq w).length b g rfl O (gp w) aa _ _ _ N ?_ ?_ ?_ ?_
  iterate 3 simp only[go_sem,v]
  intro I A r B cM Z ad ab j;rw[gi]at cM ab;have br:rd 7 I=.slice b 0 (aq w).length (.grown 1):=(B 7 ag ag ag).trans (by simp only[go_sem,v]);have eR:rd 8 I=cJ:=(B 8 ag ag ag).trans (by simp only[go_sem,J]);have co:A.next=f.next:=j.next
  have T:=aI.apart C N D j.get aa;rw[fA];simp(disch:=omega)only[go_sem,acV,acU,br];have bd:(r++M.drop (aq w).length).length<1000000:=by
   have:=congrArg ku O;rw[dD]at this;simp;omega
  refine(C3 r (r++M.drop (aq w).length) (aq w).length Z (by rw[←Z,p_]) aa b g A j.mJ).mono ?_;rintro _ A ⟨rfl,rfl⟩;simp(disch:=omega)only[go_sem,eR,cM];refine NG T _ (by simp;omega) fun H3 g3 q1 al G cs=>?_
  simp(disch:=omega)only[go_sem];have ac:=C4 r;rw[l_ ad,ab]at ac⊢;obtain⟨ra,bi⟩:=ac;have bb:d=0∨b≠d:=T.ne j.mJ.row;have be:cI H3 b g (aL (r++M.drop (aq w).length)):=j.mJ.keep (G b aa bb) (G g aa (.inr (fun e=>D e.symm)));have a1:1<10000000000000000000:=ag;have a9:w/10000000000000000000=n/e6^(i+1):=by
   rw[l,cQ,oX];rfl
  have a7:aL ((oW i).map (ou n)++[w%10000000000000000000])=aL ((oW (i+1)).map (ou n)):=by
   rw[List.range_succ,List.map_append,l];rfl
  rw[a7]at q1;refine⟨w/10000000000000000000,Nat.div_lt_self (ld q) a1,i+1,b,g,g3,_,_,?_,be,He bi,ad.app (bv.drop _),bd,a6,aa,a',aa,a9,?_,q1,?_,?_,?_,fun t E=>?_,fun y hy=>?_,.inr (by rw[qb,←l];exact q)⟩
  iterate 2 simp only[go_sem]
  ·rcases al with⟨_,h⟩|⟨_,h⟩
   ·omega
   ·rw[h];exact D
  ·rcases al with⟨_,h⟩|⟨h1,h⟩
   ·exact .inr aa
   ·rw[h];exact S
  ·intro b' m' c' e;cases e;omega
  ·simp(disch:=omega)only[bV];refine(B t aa aa aa).trans ?_;simp(disch:=omega)only[bV];exact L t E
  ·rw[G y aa aa,j.get y aa aa];exact U y hy
theorem aI.t_{v:V}(d:aI c a v b h)(e:0<c.next):h<c.next:=by
 cases d with
 |nil=>exact e
 |cells kb j aR g k f i=>exact f
theorem fm.Pe{v:V}{key:Nat}(h:fm c v j key a p)(d:0<c.next):key<c.next:=by
 cases h with
 |rF h e=>exact aI.t_ h d
 |bg g hl b f e=>exact b
theorem SK(a:Nat){l:List UInt8}{key m:Nat}{kk:Bool}(F:Fr)(H:af)(R:Go.au.X→Fr→af→Prop)(hT:fm H (rd 0 F) l key m kk)(C:l.length+a≤m)(z:5≤H.next)(u:rd 70 F=ah (a:Int))(v:rd 71 F=ah 0)(A:a<1000)
 (w:∀f c d,(∀t,t<16→t≠0→rd t f=rd t F)→fm c (rd 0 f) (l++aX a 48) d m kk→iZ key d H c→R (.exit 6) f c):bx (.loop (pc 354 11)) R F H:=by
 refine bH (fun k b g=>∃(i e:Nat),k=a-i∧i≤a∧(∀t,t<16→t≠0→rd t b=rd t F)∧rd 70 b=ah (a:Int)∧rd 71 b=ah (i:Int)∧fm g (rd 0 b) (l++aX i 48) e m kk∧iZ key e H g) a ⟨0,key,rfl,bQ _,fun _ _ _=>rfl,u,v,by rw[p8,fG];exact hT,iZ.refl _ _⟩ ?_;rintro k b g ⟨i,e,rfl,hi,q,h,j,r,p⟩;have D:=p.next
 rw[acI];by_cases B:i<a
 ·simp(disch:=omega)only[go_sem,Mx,ac0,h,j,dt];refine C7 r 48 (by simp;omega) aa rfl ?_;intro E c d s y;simp(disch:=omega)only[go_sem,acZ,j,aH];rw[eJ,←List.replicate_succ']at s;refine⟨a-(i+1),aa,i+1,d,rfl,aa,fun t n o=>?_,?_,?_,?_,p.trans y⟩
  ·simp(disch:=omega)only[bV];exact q t n o
  ·simp only[go_sem,h]
  ·simp only[go_sem];rfl
  ·simp only[go_sem];exact s
 ·have x:i=a:=aa;subst x;simp(disch:=omega)only[go_sem,Mx,h,j,df];refine w _ _ e (fun t n o=>?_) ?_ p
  ·simp(disch:=omega)only[bV];exact q t n o
  ·simp only[go_sem];exact r
theorem am7{a:Nat}(h:q≤0):rz max2 [ah (a:Int),ah q]=some (.val (ah (a:Int))):=by
 have e:max2 (ah (a:Int)) (ah q)=some (ah (a:Int)):=by
  show some (V.int .i64 (match lA (a:Int) q with|true=>q|false=>(a:Int)))=_;rw[qz,aZ (aa:¬(a:Int)<q)]
 show ao (ao (max2 (ah (a:Int)) (ah q)) fun a=>some a) (fun v=>some (aY.val v))=_;rw[e];rfl
theorem Uw(f:u=ou a h):(a/e6^(h+1)=0→dec (a/e6^h)=dec u)∧(a/e6^(h+1)≠0→dec (a/e6^h)=dec (a/e6^(h+1))++(aX (19-(dec u).length) 48++dec u)):=by
 have e:a/e6^(h+1)=a/e6^h/e6:=by rw[cQ,oX]
 have d:u<e6:=by rw[f];exact KE a h
 have g:u=a/e6^h%e6:=f;rw[e];generalize a/e6^h=x at*
 have c:e6=10^19:=rfl;have i:0<e6:=ag;refine⟨fun b=>?_,fun b=>?_⟩
 ·have l:x<e6:=by
   rcases mj x e6 with h1|h1
   ·exact h1
   ·have:=Nat.div_pos h1 i;omega
  rw[g,jV l]
 ·have hl:(dec u).length≤19:=by
   unfold dec;split
   ·decide
   ·exact qn (k:=19) (by rw[←c];exact d)
  rw[←Ns 19 u hl (by rw[←c];exact d)];have m:x≠0:=fun e=>by rw[e,Nat.zero_div]at b;exact b rfl
  have j:dec x=ds x:=aj m;have k:dec (x/e6)=ds (x/e6):=aj b;rw[j,k,←Nu (x/e6) b 19 u (by rw[←c];exact d),←c];congr 1;have:=jm x e6;rw[bK]at this;rw[g];exact this.symm
theorem afJ{a:Nat}(b:a≤h):(dec a).length≤(dec h).length:=by
 have c:=tQ h;have d:dec a=if a=0 then [48]else ds a:=rfl
 rw[d];split
 ·exact c
 ·exact qn (eY b (dec_lt h))
theorem fm.other{v:V}{key:Nat}(d:fm c v j key a p)(s:c.get h=.cells b 0)(k:key≠h)(g:∀y,y<c.next→y≠h→H.get y=c.get y)(A:c.next≤H.next):fm H v j key a p:=by
 cases d with
 |rF d i=>
  refine .rF ?_ i;generalize cl j=B at d⊢
  cases d with
  |nil=>exact .nil
  |cells kb w aR l z x u=>
   rename_i m n f;have o:m≠h:=fun e=>by
    rw[e,s]at kb;injection kb with _ d
    exact l d.symm
   exact .cells (by rw[g _ u o];exact kb) (by rw[g _ x k];exact w) aR l z aa aa
 |bg t hl q r i=>exact .bg (by rw[g _ q k];exact t) hl aa r i
set_option maxHeartbeats 1000000 in
theorem aqT(L:List Nat)(n k a d p:Nat)(eq:L.length=k+1)(ch:∀i,i≤k→L.getD i 0=ou n i)(l:List UInt8){key m:Nat}{kk:Bool}(F:Fr)(u H:af)(ci:∀y,y<u.next→H.get y=u.get y)(co:5≤u.next∧u.next≤H.next)(R:Go.au.X→Fr→af→Prop)(dl:n/e6^(k+1)=0)(dp:n/e6^k≠0)(hk:k<100)(hm:l.length+(dec n).length≤m)(hT:fm H (rd 0 F) l key m kk)(hg:GT H)(h5:5≤H.next)(e':key=0∨5≤key)(X:List UInt8)(hX:X.length=20)
 (e2:rd 2 F=ah 0) (cd:rd 8 F=.slice a 0 (k+1) (.grown 1)) (b2:rd 11 F=.ptr p 0) (b':rd 12 F=bO) (ca:rd 13 F=ah (k:Int)) (Z:cI H a d (aL L)) (a8:H.get p=.cells (cl X) 0) (dC:key<u.next∧u.next≤a∧u.next≤d∧u.next≤p) (dE:a<H.next∧d<H.next∧p<H.next) (fa:5≤p∧5≤a∧5≤d)
 (hR:∀F' H' b1,fm H' (rd 0 F') (l++dec n) b1 m kk→rd 12 F'=aD→iZ key b1 u H'→R (.exit 4) F' H'):bx (.loop (pc 354 14)) R F H:=by
 have et:p≠a:=fun e=>by
  have:=Z.row;rw[←e,a8]at this;injection this with _ h
  exact Z.ne h.symm
 have ev:p≠d:=fun e=>by
  obtain⟨f,x,A⟩:=Z.bB;rw[←e,a8]at x;cases x
 have c':∀j,(dec (n/e6^j)).length≤(dec n).length:=fun j=>afJ (jn _ _)
 refine bH (fun j D o=>∃(b:Nat) (V:List UInt8),j≤k+1∧fm o (rd 0 D) (l++if j=k+1 then []else dec (n/e6^j)) b m kk∧iZ key b u o∧(b=key∨H.next<b)∧H.next≤o.next∧rd 2 D=ah 0∧rd 8 D=.slice a 0 (k+1) (.grown 1)∧rd 11 D=.ptr p 0∧rd 12 D=.bool (decide (j=k+1))∧rd 13 D=ah ((j:Int)-1)∧cI o a d (aL L)∧o.get p=.cells (cl V) 0∧V.length=20∧GT o) (k+1)
  ⟨key,X,aE _,by rw[ak rfl,fG];exact hT,⟨.inl rfl,fun y r _=>ci y r,co.2⟩,.inl rfl,aE _,e2,cd,b2,by rw[bk rfl];exact b',by rw[ca];congr 1;omega,Z,a8,hX,hg⟩ ?_
 rintro j D o ⟨b,V,hj,ab,z,bb,fd,f2,f8,am,O,K,a3,bv,es,ba⟩;have fg:=z.next
 have dt:b≠p∧b≠a∧b≠d∧(b=0∨5≤b):=by
  obtain⟨a0,W,Y,eb⟩:=dC;obtain⟨ed,eh,el⟩:=dE;rcases bb with h|h
  ·exact⟨aa,aa,aa,aa⟩
  ·exact⟨aa,aa,aa,aa⟩
 rw[acK];cases j with
 |zero=>
  simp(disch:=omega)only[go_sem,K];rw[aj aa,nK,qc]at ab;refine hR _ _ b ?_ ?_ z
  ·simp only[go_sem];exact ab
  ·simp only[go_sem,O]
   try rw[aZ (aa:¬0=k+1)]
   try rfl
 |succ i=>
  have dd:(((i+1:Nat):Int)-1)=(i:Int):=aa;rw[dd]at K;obtain⟨J,a6⟩:∃T,T=(if i+1=k+1 then []else dec (n/e6^(i+1))):=⟨_,rfl⟩;rw[←a6]at ab;obtain⟨c,hc⟩:∃c,c=ou n i:=⟨_,rfl⟩;have b0:c<e6:=by rw[hc];exact KE n i
  have c2:c<18446744073709551616:=qe b0 ag;have ex:(dec c).length≤19:=by
   unfold dec;split
   ·decide
   ·exact qn (k:=19) b0
  obtain⟨d5,d6⟩:=Uw hc;have db:L.getD i 0=c:=by rw[ch i aa,hc]
  have du:iq false 1 [.ptr a i] o=some (ay (c:Int)):=by rw[sR a3,dw aa,db]
  have d4:slice3 (nB 20 1) false true false [.ptr p 0,ah 0]=some (.val (.slice p 0 0 (.known 20))):=by
   rw[HS,v8 aa];rfl
  have cs:fm o (.slice p 0 0 (.known 20)) [] p 20 true:=.bg (l:=[]) (rest:=V) (by rw[eI];exact bv) (by simp;omega) aa aa ag;simp(disch:=omega)only[go_sem,acJ,f8,am,K,df,d4,b3,bJ,du];refine(Jh c c2 o cs (by simp;omega) ba aa).mono ?_;rintro vd q ⟨kb,a5,a2⟩;rw[eI]at a5;have ds:kb=p:=by rcases a2.key with h|⟨h,_⟩<;>omega
  subst ds;obtain⟨I,ce,ac,fi⟩:∃I,vd=.slice kb 0 (dec c).length (.known 20)∧q.get kb=.cells (cl (dec c++I)) 0∧(dec c).length+I.length=20:=by
   cases a5 with
   |bg hb hl h0 h5 hm=>exact⟨_,rfl,hb,hl⟩
  subst ce;clear a5;have B:∀y,y<o.next→y≠kb→q.get y=o.get y:=fun y r S=>a2.keep y r (.inr S)
  have dT:=a2.next
  have bo:=ab.other bv dt.1 B dT;have eQ:=tQ c;have fb:H.next≤q.next:=aa
  have bs:∀al,(J++(aX al 48++dec c))=dec (n/e6^i)→l.length+J.length+al+(dec c).length≤m:=fun al h=>by
   have x:=congrArg ku h;have A:=c' i;simp only[aS,wJ]at x;omega
  by_cases dk:i=k
  ·have P:(J++(aX 0 48++dec c))=dec (n/e6^i):=by
    rw[a6,ak aa,p8,eI,eI,d5 (by rw[dk];exact dl)]
   have d3:=bs 0 P;have a':decide (i+1=k+1)=true:=bk aa;have d2:(0:Int)-19*(i:Int)≤0:=aa;have d7:aC .i64 ((19:Int)*(i:Int))=19*(i:Int):=aH _ aa;have d8:aC .i64 ((0:Int)-19*(i:Int))=0-19*(i:Int):=aH _ aa;have bd:aC .i64 ((((dec c).length:Nat):Int)-(((dec c).length:Nat):Int))=((0:Nat):Int):=by rw[aH _ aa];omega
   rw[a']at O;simp(disch:=omega)only[go_sem,f2,O,K,d7,d8,am7 d2,bd];refine SK (0) (l:=l++J) (key:=b) (m:=m) (kk:=kk) _ q _ ?_ ?_ aa ?_ ?_ aa ?_
   ·simp only[go_sem];exact bo
   ·rw[aS];omega
   iterate 2 simp only[go_sem]
   intro v M t w a4 g;have eR:rd 8 v=.slice a 0 (k+1) (.grown 1):=(w 8 ag ag).trans (by simp only[go_sem,f8]);have g2:rd 2 v=ah 0:=(w 2 ag ag).trans (by simp only[go_sem,f2]);have oC:rd 11 v=.ptr kb 0:=(w 11 ag ag).trans (by simp only[go_sem,am]);have sK:rd 13 v=ah (i:Int):=(w 13 ag ag).trans (by simp only[go_sem,K]);have rC:rd 14 v=.slice kb 0 (dec c).length (.known 20):=(w 14 ag ag).trans (by simp only[go_sem]);have a7:M.get kb=.cells (cl (dec c++I)) 0:=by rw[g.keep kb aa aa];exact ac
   have d0:=g.next
   rw[fA];simp(disch:=omega)only[go_sem,rC];refine At a4 (s:=dec c) rfl ?_ aa ?_ aa ?_
   ·show M.cS kb 0 ((dec c).length*1)=_;rw[fJ a7,c_,dF,rq,e4,ak (by rw[aS,jc];omega),yM (by rw[jc];exact aE _),b_ (by rw[jc];exact aE _)]
   ·simp only[aS,wJ];omega
   intro v' N C U s;simp(disch:=omega)only[go_sem,My,sK,aH];have dq:t≠kb∧t≠a∧t≠d:=by
    rcases g.key with h|⟨_,h⟩
    ·exact⟨aa,aa,aa⟩
    ·exact⟨aa,aa,aa⟩
   have G:∀y,y<q.next→y≠b→y≠t→N.get y=q.get y:=fun y r x E=>(s.keep y aa (.inr E)).trans (g.keep y r (.inr x))
   have bc:C=key∨H.next<C:=by
    rcases(g.trans s).key with h|⟨h,h'⟩
    ·rw[h];exact bb
    ·exact .inr aa
   have a1:iZ key C u N:=by
    have Q:=g.trans s;refine⟨?_,fun y r bj=>?_,by have:=s.next;omega⟩
    ·rcases Q.key with h|⟨h,h'⟩
     ·rw[h];exact z.key
     ·rcases z.key with A|⟨A,E⟩
      ·exact .inr ⟨aa,aa⟩
      ·omega
    ·by_cases S:y=kb
     ·omega
     ·have be:b=0∨y≠b:=by
       rcases z.key with A|⟨A,E⟩<;>omega
      rw[Q.keep y aa be,B y aa S];exact z.keep y r bj
   refine⟨i,aa,C,dec c++I,aa,?_,a1,bc,by have:=s.next;omega,?_,?_,?_,?_,?_,?_,?_,by rw[aS];omega,?_⟩
   ·simp only[go_sem];rw[aj aa,←P];simp only[eJ]at U⊢;exact U
   iterate 3 simp only[go_sem,g2,eR,oC]
   ·simp only[go_sem];rw[aZ aa]
   ·simp only[go_sem]
   ·have W:q.get a=o.get a:=B a aa aa;have Y:q.get d=o.get d:=B d aa aa;exact a3.keep ((G a aa aa aa).trans W) ((G d aa aa aa).trans Y)
   ·rw[G kb aa aa aa];exact ac
   ·refine ba.keep fun y r=>?_
    have bi:t=0∨y≠t:=by rcases g.key with h|⟨_,h⟩<;>omega
    rw[s.keep y aa bi,g.keep y aa aa,B y aa aa]
  ·have P:(J++(aX (19-(dec c).length) 48++dec c))=dec (n/e6^i):=by
    have d1:n/e6^(i+1)≠0:=fun e=>by
     have x:n<e6^(i+1):=by
      rcases mj n (e6^(i+1))with h|h
      ·exact h
      ·have:=Nat.div_pos h (fl (ag:0<e6));omega
     exact dp (m4 (eG x (gl ag aa)))
    rw[a6,aj aa,d6 d1]
   have d3:=bs (19-(dec c).length) P;have a':decide (i+1=k+1)=false:=aZ aa;have bd:aC .i64 ((19:Int)-(((dec c).length:Nat):Int))=((19-(dec c).length:Nat):Int):=by rw[aH _ aa];omega
   rw[a']at O;simp(disch:=omega)only[go_sem,O,bd];refine SK (19-(dec c).length) (l:=l++J) (key:=b) (m:=m) (kk:=kk) _ q _ ?_ ?_ aa ?_ ?_ aa ?_
   ·simp only[go_sem];exact bo
   ·rw[aS];omega
   iterate 2 simp only[go_sem]
   intro v M t w a4 g;have eR:rd 8 v=.slice a 0 (k+1) (.grown 1):=(w 8 ag ag).trans (by simp only[go_sem,f8]);have g2:rd 2 v=ah 0:=(w 2 ag ag).trans (by simp only[go_sem,f2]);have oC:rd 11 v=.ptr kb 0:=(w 11 ag ag).trans (by simp only[go_sem,am]);have sK:rd 13 v=ah (i:Int):=(w 13 ag ag).trans (by simp only[go_sem,K]);have rC:rd 14 v=.slice kb 0 (dec c).length (.known 20):=(w 14 ag ag).trans (by simp only[go_sem]);have a7:M.get kb=.cells (cl (dec c++I)) 0:=by rw[g.keep kb aa aa];exact ac
   have d0:=g.next
   rw[fA];simp(disch:=omega)only[go_sem,rC];refine At a4 (s:=dec c) rfl ?_ aa ?_ aa ?_
   ·show M.cS kb 0 ((dec c).length*1)=_;rw[fJ a7,c_,dF,rq,e4,ak (by rw[aS,jc];omega),yM (by rw[jc];exact aE _),b_ (by rw[jc];exact aE _)]
   ·simp only[aS,wJ];omega
   intro v' N C U s;simp(disch:=omega)only[go_sem,My,sK,aH];have dq:t≠kb∧t≠a∧t≠d:=by
    rcases g.key with h|⟨_,h⟩
    ·exact⟨aa,aa,aa⟩
    ·exact⟨aa,aa,aa⟩
   have G:∀y,y<q.next→y≠b→y≠t→N.get y=q.get y:=fun y r x E=>(s.keep y aa (.inr E)).trans (g.keep y r (.inr x))
   have bc:C=key∨H.next<C:=by
    rcases(g.trans s).key with h|⟨h,h'⟩
    ·rw[h];exact bb
    ·exact .inr aa
   have a1:iZ key C u N:=by
    have Q:=g.trans s;refine⟨?_,fun y r bj=>?_,by have:=s.next;omega⟩
    ·rcases Q.key with h|⟨h,h'⟩
     ·rw[h];exact z.key
     ·rcases z.key with A|⟨A,E⟩
      ·exact .inr ⟨aa,aa⟩
      ·omega
    ·by_cases S:y=kb
     ·omega
     ·have be:b=0∨y≠b:=by
       rcases z.key with A|⟨A,E⟩<;>omega
      rw[Q.keep y aa be,B y aa S];exact z.keep y r bj
   refine⟨i,aa,C,dec c++I,aa,?_,a1,bc,by have:=s.next;omega,?_,?_,?_,?_,?_,?_,?_,by rw[aS];omega,?_⟩
   ·simp only[go_sem];rw[aj aa,←P];simp only[eJ]at U⊢;exact U
   iterate 3 simp only[go_sem,g2,eR,oC]
   ·simp only[go_sem];rw[aZ aa]
   ·simp only[go_sem]
   ·have W:q.get a=o.get a:=B a aa aa;have Y:q.get d=o.get d:=B d aa aa;exact a3.keep ((G a aa aa aa).trans W) ((G d aa aa aa).trans Y)
   ·rw[G kb aa aa aa];exact ac
   ·refine ba.keep fun y r=>?_
    have bi:t=0∨y≠t:=by rcases g.key with h|⟨_,h⟩<;>omega
    rw[s.keep y aa bi,g.keep y aa aa,B y aa aa]
theorem asj:[V.int .u8 0,.int .u8 0,.int .u8 0,.int .u8 0,.int .u8 0,.int .u8 0,.int .u8 0,.int .u8 0,.int .u8 0,.int .u8 0,.int .u8 0,.int .u8 0,.int .u8 0,.int .u8 0,.int .u8 0,.int .u8 0,.int .u8 0,.int .u8 0,.int .u8 0,.int .u8 0]=cl (aX 20 0):=rfl
theorem Jg(n:Nat)(r:n≠0)(U:(aq n).length<40){v:V}{key:Nat}(H:af)(hT:fm H v j key a p)(W:j.length+(dec n).length≤a)(I:GT H)(x:5≤H.next)(Q:key=0∨5≤key):c7 354 [v,bl (aq n),ah 0] H fun Z d=>∃e,fm d Z (j++dec n) e a p∧iZ key e H d:=by
 have S:=(jd n).2 r;have R:=hT.Pe aa;refine o6 Go.Proofs.YtddhncjmaahodaaGreatDoor.hT b7 fY O5.1 O5.2 rfl ?_;simp(disch:=omega)only[go_sem,d354,acT];refine(y_ (aq n) ⟨S,aa⟩ H).mono ?_;rintro _ d ⟨rfl,B,al,M⟩;simp(disch:=omega)only[go_sem,acS,acR];refine Ux n H.next (H.next+1) (H.next+2) (aq n) r U _ d _ ?_ ?_ B (b_ (aE _)) (gp n) aa ⟨aa,aa⟩ ⟨aa,aa⟩ aa ?_
 iterate 2 simp only[go_sem]
 intro l b k cJ m g L N O eR K G J P X;have t:rd 0 l=v:=(g 0 ag).trans (by simp only[go_sem]);have u:rd 2 l=ah 0:=(g 2 ag).trans (by simp only[go_sem]);clear g;obtain⟨f,h,C,ad,ae⟩:=aI.Ig K aa;have T:(aL ((oW (k+1)).map (ou n))).length=k+1:=by rw[eM,g5,List.length_range]
 rw[T]at h;have F:=G f _ _ h;rw[h]at eR;have aib:((oW (k+1)).map (ou n)).length=k+1:=by rw[g5,List.length_range]
 have z:∀i,i≤k→((oW (k+1)).map (ou n)).getD i 0=ou n i:=fun i hi=>by
  rw[bX,iy,wG aa];rfl
 generalize(oW (k+1)).map (ou n)=s at*
 have o:∀y,y<H.next→b.get y=H.get y:=fun y c=>(P y c).trans (M y c)
 have q:∀y,y<H.next→(b.push (.cells (cl (aX 20 0)) 0)).get y=H.get y:=fun y c=>by
  rw[af.bf,aj aa];exact o y c
 have D:fm (b.push (.cells (cl (aX 20 0)) 0)) v j key a p:=(hT.low o X).push _;have Y:aC .i64 (((k+1:Nat):Int)-1)=(k:Int):=by rw[aH _ aa];omega
 rw[fA];simp(disch:=omega)only[go_sem,acQ,acP,acO,eR,Y];rw[asj];refine aqT s n k f m b.next aib z j (key:=key) (m:=a) (kk:=p) _ H (b.push (.cells (cl (aX 20 0)) 0)) q ⟨x,by show H.next≤b.next+1;omega⟩ _ L N O W ?_ (I.keep fun y c=>q y aa) (by show 5≤b.next+1;omega) Q (aX 20 0) (wJ ..) ?_ ?_ ?_ ?_ ?_ (C.keep (by rw[af.bf,aj aa]) (by rw[af.bf,aj aa])) (by rw[af.bf,ak rfl]) ⟨R,F,J,aa⟩ ⟨by show f<b.next+1;omega,by show m<b.next+1;omega,by show b.next<b.next+1;omega⟩ ⟨aa,aa,aa⟩ ?_
 ·simp only[go_sem,t];exact D
 iterate 5 simp only[go_sem,u,eR]
 intro ab H4 e E w A;rw[fA];simp only[go_sem,acN,acL,w];exact⟨e,E,A⟩
variable{s:V}
theorem Tn(n:Nat)(m:n≠0)(t:(aq n).length≤30){v:V}(o:cT s=some (.val (ah ((a:Nat):Int))))(q:a<1000){key:Nat}(H:af)(hT:fm H v j key h p)(l:j.length+(dec n).length≤h)(i:GT H)(g:5≤H.next)(k:key=0∨5≤key):c7 297 [v,bl (aq n),ah 0,s] H fun f c=>∃b,fm c f (j++dec n) b h p∧iZ key b H c:=by
 refine o6 Go.Proofs.YtddhncjmaahodaaGreatDoor.hT b7 fY O3.1 O3.2 rfl ?_;by_cases r:a=0
 ·simp(disch:=omega)only[go_sem,d297,L8,L7,o,aH,dt];refine(Jg n m aa H hT l i g k).mono ?_;rintro f c ⟨b,d,e⟩;simp only[go_sem];exact⟨b,d,e⟩
 ·simp(disch:=omega)only[go_sem,d297,L8,L7,o,aH,df];refine(Jg n m aa H hT l i g k).mono ?_;rintro f c ⟨b,d,e⟩;simp only[go_sem];exact⟨b,d,e⟩
theorem fm.str{v:V}{key:Nat}(h:fm c v j key a p):tg [v] c=some (.str j):=by
 cases h with
 |rF h d=>exact h.str
 |bg b hl e f d=>exact Ih (pre:=[]) (by rw[eI];exact b) rfl rfl
theorem Ji(n:Nat)(D:(aq n).length≤30){v:V}{key:Nat}(H:af)(hT:fm H v j key a p)(i:j.length+(dec n).length≤a)(s:GT H)(A:5≤H.next)(C:key=0∨5≤key):c7 232 [v,bl (aq n)] H fun l b=>∃c,fm b l (j++dec n) c a p∧iZ key c H b:=by
 refine o6 Go.Proofs.YtddhncjmaahodaaGreatDoor.hT b7 fY OZ.1 OZ.2 rfl ?_;by_cases g:n=0
 ·subst g;have M:(((aq 0).length:Nat):Int)=0:=by rw[jY];rfl
  have E:j.length+1≤a:=i;simp(disch:=omega)only[go_sem,d232,EG,dt];refine C7 hT 48 E aa rfl ?_;intro N J c d e;simp only[go_sem];exact⟨c,d,e⟩
 have L:=(jd n).2 g;by_cases q:(aq n).length=1
 ·have t:=nS n;rw[q,Nat.pow_one]at t;have F:(aq n).getD 0 0=n:=by
   obtain⟨r,m,o⟩:=mV n g;rw[q]at m o;simp only[m6,nK,dF]at m o;omega
  have B:dJ none 1 [bl (aq n),ah 0]=some (.val (.cY (aL (aq n)) 0)):=gN ⟨ag,aa⟩;simp(disch:=omega)only[go_sem,d232,EG,LN,df,dt,B,dw,F];refine(Jh n t H hT i s A).mono ?_;rintro l b ⟨c,d,e⟩;simp only[go_sem];exact⟨c,d,e⟩
 ·simp(disch:=omega)only[go_sem,d232,EG,LN,ZJ,ZI,df];refine bH (fun k f b=>k=0∧rd 0 f=v∧rd 1 f=bl (aq n)∧rd 5 f=.slice (H.next+1) 0 1 (.known 1)∧(∀y,y<H.next→b.get y=H.get y)∧H.next≤b.next) 0 ⟨rfl,?_,?_,?_,?_,?_⟩ ?_
  iterate 3 simp only[go_sem]
  ·intro y I;simp(disch:=omega)only[go_sem,aj]
  ·simp only[go_sem];omega
  rintro k f b ⟨rfl,w,x,z,h,u⟩;rw[ZG];simp(disch:=omega)only[go_sem,ZH,w,x,z,df];have G:cT (V.slice (H.next+1) 0 1 (.known 1))=some (.val (ah ((1:Nat):Int))):=rfl
  refine(Tn n g D G ag b (hT.low h u) i (s.keep fun y I=>h y aa) aa C).mono ?_;rintro l K ⟨c,d,e⟩;simp only[go_sem];exact⟨c,d,e.after h u⟩
theorem Ix(z:Int)(t:(aq z.natAbs).length≤30){v:V}{key:Nat}(H:af)(hT:fm H v j key a p)(g:j.length+(zt z).length≤a)(r:GT H)(q:5≤H.next)(s:key=0∨5≤key):c7 169 [b5 z,v] H fun n d=>∃c,fm d n (j++zt z) c a p∧iZ key c H d:=by
 refine o6 Go.Proofs.YtddhncjmaahodaaGreatDoor.hT b7 fY OV.1 OV.2 rfl ?_;have f:∀y,y<H.next→(H.push (.cells [.bool (decide (z<0)),bl (aq z.natAbs)] 0)).get y=H.get y:=fun y D=>by rw[af.bf,aj aa]
 have e:=hT.push (.cells [.bool (decide (z<0)),bl (aq z.natAbs)] 0);have k:GT (H.push (.cells [.bool (decide (z<0)),bl (aq z.natAbs)] 0)):=r.push q _;by_cases b:z<0
 ·rw[bk b]at f e k;rw[SM b]at g⊢;simp only[cL]at g;simp(disch:=omega)only[go_sem,d169,Lj,b5,dg,bk b];refine C7 (H:=H.push (.cells [bO,bl (aq z.natAbs)] 0)) e 45 aa (by show H.next+1≠0;omega) rfl ?_
  intro E o c A u;have bA:=u.after (H:=H) f (sr _);have w:o.get H.next=.cells [bO,bl (aq z.natAbs)] 0:=by
   have B:=hT.Pe aa;rw[u.keep H.next (mm _) aa,af.bf,ak rfl]
  have x:c=0∨5≤c:=by
   rcases bA.key with h|⟨_,h⟩<;>omega
  have C:=bA.next
  simp(disch:=omega)only[go_sem,Li,w];refine(Ji z.natAbs t o A (by simp;omega) (BS bA r q s) aa x).mono ?_;rintro n d ⟨m,i,l⟩;simp only[go_sem];refine⟨m,?_,bA.trans l⟩;rw[eJ]at i;exact i
 ·rw[aZ b]at f e k;rw[Dj b]at g⊢;simp(disch:=omega)only[go_sem,d169,Lj,Li,b5,dg,aZ b];refine(Ji z.natAbs t _ e g k (by show 5≤H.next+1;omega) s).mono ?_
  rintro n d ⟨m,i,l⟩;simp only[go_sem];exact⟨m,i,l.after f (sr _)⟩
theorem Nl(h:(aq a).length≤30):(dec a).length≤601:=by
 have b:=nS a;have c:a<10^600:=@Go.aF.zY a 18446744073709551616 (aq a).length 10 20 600 b ag aa ag;unfold dec;split
 ·decide
 ·exact Nat.le_succ_of_le (qn c)
theorem ase(z:Int)(b:(aq z.natAbs).length≤30):c4 168 [b5 z] (.str (zt z)):=by
 refine dm (.cons (gD _) .nil) (o6 Go.Proofs.YtddhncjmaahodaaGreatDoor.hT b7 fY OU.1 OU.2 rfl ?_);have hl:(zt z).length≤1000:=by
  have:=Nl b;unfold zt;split<;>simp<;>omega
 simp only[go_sem,d168,X7,b5,dg];have a:GT (cZ.push (.cells [.bool (decide (z<0)),bl (aq z.natAbs)] 0)):=fB.push ag _;refine(Ix z b _ (fm.rF (l:=[]) (m:=1000) .nil ag) (by simpa using hl) a (by show 5≤6;decide) (.inl rfl)).mono ?_;rintro g e ⟨f,c,d⟩;rw[eI]at c;simp only[go_sem,c.str];exact bZ (BS d a (by show 5≤6;decide) (.inl rfl)) rfl (.str _)
theorem aq_{ds:List Nat}{w:Nat}(c:W.aA ds)(hl:ds.length=(aq w).length)(h:w≤W.val ds):ds=aq (W.val ds):=by
 have d:=lP h;have b:=l_ c;have a:=C5 ds;rw[b,b_ aa]at a;exact a.symm
theorem amH(a:List Nat)(f h n b g:Nat)(hx:W.aA a)(T:f<18446744073709551616)(U:h<18446744073709551616)(hn:a.length=n)(aw:n<1000000)(F:Fr)(H:af)(R:Go.au.X→Fr→af→Prop)(Q:cI H b g (aL a))(I:rd 3 F=.slice b 0 n (.grown 1))(M:rd 6 F=ay (f:Int))(N:rd 9 F=ay (h:Int))(J:rd 42 F=.slice b 0 n (.grown 1))(K:rd 43 F=ah (n:Int))(L:rd 44 F=ah 0)
 (S:∀l u ds k,(∀t,t<9→rd t l=rd t F)→rd 9 l=ay ((k:Nat):Int)→k<18446744073709551616→ds.length=n→W.aA ds→W.val ds+18446744073709551616^n*k=h+W.val a*f→mq H u b g (aL ds)→R (.exit 4) l u):bx (.loop (pc 307 7)) R F H:=by
 refine bH (fun k d e=>∃(ds:List Nat) (c:Nat),k=n-ds.length∧ds.length≤n∧(∀t,t<9→rd t d=rd t F)∧rd 9 d=ay (c:Int)∧rd 42 d=.slice b 0 n (.grown 1)∧rd 43 d=ah (n:Int)∧rd 44 d=ah (ds.length:Int)∧c<18446744073709551616∧W.aA ds∧
  W.val ds+18446744073709551616^ds.length*c=h+W.val (a.take ds.length)*f∧mq H e b g (aL (ds++a.drop ds.length))) n ⟨[],h,rfl,bQ _,fun _ _=>rfl,N,J,K,L,U,W.aA.nil,by simp[W.val],mq.refl Q⟩ ?_
 rintro k d e ⟨ds,c,rfl,hd,j,w,v,m,o,y,E,s,i⟩;have O:=(j 3 ag).trans I;have P:=(j 6 ag).trans M;rw[Mg];by_cases hi:ds.length<n
 ·have D:=hx.getD ds.length;have z:=ry (l:=a) (i:=ds.length) aa;have C:=kM (l:=a) (i:=ds.length) aa;obtain⟨x,ex⟩:∃x,a.getD ds.length 0=x:=⟨_,rfl⟩;rw[ex]at z D C;rw[z]at i;have A:=i.mJ;have Y:=zn ds (a.drop (ds.length+1)) x;have B:ds.length<(ds++x::a.drop (ds.length+1)).length:=aB;have Z:iq false 1 [.ptr b ds.length] e=some (ay (x:Int)):=by rw[sR A,dw B,Y]
  obtain⟨p,G,p1,p2,p3,am⟩:=zJ x f c D T y;have ab:oL 1 [.ptr b ds.length,ay (p:Int)] e=some (V.undef,af.wr e b g (aL (ds++p::a.drop (ds.length+1)))):=by
   rw[ym A (by rw[eM];exact B),kj,l9 rfl]
  simp(disch:=omega)only[go_sem,E1,ab2,O,P,w,v,m,o,dt,b3,bJ,Z];refine use am ?_;simp(disch:=omega)only[go_sem,ab1,o,b3,bJ,ab,aH];refine⟨n-(ds.length+1),aa,ds++[p],G,aB,by simp;omega,fun t r=>?_,?_,?_,?_,?_,p2,E.app (.mk p1 W.aA.nil),?_,?_⟩
  ·simp(disch:=omega)only[bV];exact j t r
  iterate 3 simp only[go_sem,v,m]
  ·simp only[go_sem,aS,gH];rfl
  ·rw[W.fF];simp only[aS,gH,cQ,W.val,fc,cE];rw[C];have:=Qy (z:=0) (x:=x) s (by rw[dK];exact p3.symm);rw[fc,cE]at this;exact this
  ·have:=i.wr (aL ((ds++[p])++a.drop (ds.length+1)));simpa using this
 ·have q:ds.length=n:=aa;simp(disch:=omega)only[go_sem,E1,m,o,df];rw[q,b_ aa]at s;rw[q,jB aa,fG]at i;refine S _ _ ds c (fun t r=>?_) ?_ y q E s i
  ·simp(disch:=omega)only[bV];exact j t r
  ·simp only[go_sem,w]
theorem FB:∀(l:List UInt8) (a:Nat),l.foldl (fun a c=>10*a+(c.toNat-48)) a=a*10^l.length+dv l
 |[],a=>by simp[dv]
 |c::l,a=>by
  have b:dv (c::l)=l.foldl (fun a c=>10*a+(c.toNat-48)) (10*0+(c.toNat-48)):=rfl;rw[b,List.foldl_cons,FB l,FB l,cL,cQ,cF,fc,dK];rw[bK 10 a,bT,bK 10];omega
theorem Nv(a b:List UInt8):dv (a++b)=dv a*10^b.length+dv b:=by
 have h:dv (a++b)=b.foldl (fun a c=>10*a+(c.toNat-48)) (dv a):=by
  show(a++b).foldl _ 0=_;rw[List.foldl_append];rfl
 rw[h,FB]
theorem agd(s:List UInt8)(a:∀c∈s,eg c):(aq (dv s)).length≤s.length:=
 vj (eG (ow s a) (wN ag _))
theorem amG(a:List Nat)(h e g:Nat)(v:V)(P:W.aA a)(K:h<18446744073709551616)(x:e<18446744073709551616)(N:a.length<1000000)(F:Fr)(H:af)(R:Go.au.X→Fr→af→Prop)(n:aI H 1 v (aL a) g)(y:rd 3 F=v)(B:rd 6 F=ay (h:Int))(s:rd 9 F=ay (e:Int))(z:rd 42 F=v)(q:rd 43 F=ah (a.length:Int))(r:rd 44 F=ah 0)
 (w:∀c d ds k,(∀t,t<9→rd t c=rd t F)→rd 9 c=ay ((k:Nat):Int)→k<18446744073709551616→ds.length=a.length→W.aA ds→W.val ds+18446744073709551616^a.length*k=e+W.val a*h→aI d 1 v (aL ds) g→d.next=H.next→R (.exit 4) c d):bx (.loop (pc 307 7)) R F H:=by
 by_cases m:g=0
 ·have j:v=.an∧a=[]:=by
   generalize O:aL a=Z at n
   cases n with
   |nil=>exact⟨rfl,List.length_eq_zero_iff.1 (by rw[←eM a,O];rfl)⟩
   |cells _ _ _ T _ _ _=>exact absurd m T
  obtain⟨rfl,rfl⟩:=j;refine bH (fun k l p=>k=0∧l=F∧p=H) 0 ⟨rfl,rfl,rfl⟩ ?_;rintro k l p ⟨rfl,rfl,rfl⟩;have A:rd 43 l=ah 0:=q;have U:¬(0:Int)<0:=ag;rw[Mg];simp(disch:=assumption)only[go_sem,E1,A,r,df];refine w _ _ [] e (fun t Y=>?_) ?_ x rfl W.aA.nil (by simp[W.val]) (by rw[m];exact .nil) rfl
  ·simp(disch:=omega)only[bV]
  ·simp only[go_sem,s]
 ·obtain⟨b,j,J,L,M⟩:=aI.Ig n m;rw[eM]at j;subst j;refine amH a h e a.length b g P K x rfl N F H R J y B s z q r ?_;intro c d ds k C D E u G I i;have o:=i.mJ;obtain⟨f,Q,S⟩:=o.bB;refine w c d ds k C D E u G I ?_ i.next
  rw[←u];exact .cells o.row Q S o.ne (by rw[eM,dF]) (by rw[i.next];exact M) (by rw[i.next];exact L)
theorem an4(s:List UInt8)(G:∀c∈s,eg c)(hl:s.length≤10000):aW 307 [.str s] (bl (aq (dv s))):=by
 refine fE (.cons (.str _) .nil) (aT ak3 ?_);simp only[go_sem,d307,abZ,abY];refine bH (fun k n i=>∃(b a:List UInt8) (v:V) (g:Nat),s=b++a∧k=a.length∧rd 0 n=.str a∧rd 3 n=v∧aI i 1 v (aL (aq (dv b))) g∧5≤i.next) s.length ⟨[],s,.an,0,rfl,rfl,?_,?_,by rw[show dv []=0 from rfl,jY];exact .nil,aE 5⟩ ?_
 iterate 2 simp only[go_sem]
 rintro k n i ⟨b,a,v,g,f,rfl,r,z,w,ba⟩;rw[abW];have a9:s.length=b.length+a.length:=by rw[f,aS]
 by_cases A:a=[]
 ·subst A;rw[fG]at f;have a5:¬(0:Int)<(([]:List UInt8).length:Nat):=ag;simp(disch:=assumption)only[go_sem,abX,r,z,df];exact⟨_,aht w,dr _,by rw[f]⟩
 ·have bb:=List.length_pos_iff.2 A;obtain⟨m,em⟩:∃m,m=(a.length-1)%19+1:=⟨_,rfl⟩;have a':m≤19:=aa;have U:m≤a.length:=by
   have:=Nat.mod_le (a.length-1) 19;omega
  have ab:(((a.length:Nat):Int)-1).tmod 19=((m-1:Nat):Int):=by
   rw[(aa:((a.length:Nat):Int)-1=((a.length-1:Nat):Int)),show(19:Int)=((19:Nat):Int)from rfl,yq];congr 1;omega
  have a6:(19:Int)≠0:=ag;have ad:((m-1:Nat):Int)+1=(m:Int):=aa;obtain⟨t,q⟩:∃t,t=a.take m:=⟨_,rfl⟩;obtain⟨d,p⟩:∃t,t=a.drop m:=⟨_,rfl⟩;have bc:t.length=m:=by rw[q];exact g6 U
  have x:a=t++d:=by rw[q,p,p9]
  have a7:d.length=a.length-m:=by rw[p,gZ]
  have H:∀c∈t,eg c:=fun c u=>G c (by rw[f,x];simp[u])
  have ac:∀c∈b,eg c:=fun c u=>G c (by rw[f];simp[u])
  have t1:slice3 k4 false true false [.str a,ah (m:Int)]=some (.val (.str t)):=by
   rw[CT ⟨aa,aa⟩,bJ,q]
  have t2:slice3 k4 true false false [.str a,ah (m:Int)]=some (.val (.str d)):=by
   rw[we ⟨aa,aa⟩,bJ,p]
  have t3:Aq [.str t]=some (.new (cl t) (.bytes t.length)):=by
   show some (aY.new (lmap _ t) (.bytes (cr t)))=_;rw[amq,gO]
  simp(disch:=first|assumption|omega)only[abV,abU,abT,go_sem,↓reduceIte,kR,r,dt,aH,mB,ab,ad,t1,t3]
  refine Uv t H aa i.next .nw _ _ _ ?_ ?_ ?_ ?_ ?_ ?_ ?_
  iterate 5 simp only[go_sem]
  ·rw[af.bf,ak rfl]
  intro o j ap ar;have k0:rd 0 o=.str a:=by rw[j 0 ag];simp only[go_sem,r]
  have bA:rd 3 o=v:=by rw[j 3 ag];simp only[go_sem,z]
  have am:rd 4 o=ah (m:Int):=by rw[j 4 ag];simp only[go_sem]
  clear j;have Q:=w.push (.cells (cl t) 0);have a8:=agd b ac;have Z:10^t.length≤10^19:=gl ag aa;have ae:=ow t H;have C:10^t.length<18446744073709551616:=eY Z ag;have P:dv t<18446744073709551616:=qe ae C;have O:0<10^t.length:=fl ag;have T:cT v=some (.val (ah (((aq (dv b)).length:Nat):Int))):=by
   have:=w.len ag;rw[qc,eM]at this;exact this
  rw[fA];simp only[go_sem,abS,abR,abQ,k0,bA,am,ap,t2,T];refine amG (aq (dv b)) (10^t.length) (dv t) g v (gp _) C P aa _ _ _ Q ?_ ?_ ?_ ?_ ?_ ?_ ?_
  iterate 6 simp only[go_sem,bA,ar]
  intro y M ds k B L S D I h F X;have J:rd 0 y=.str d:=(B 0 ag).trans (by simp only[go_sem]);have K:rd 3 y=v:=(B 3 ag).trans (by simp only[go_sem,bA]);rw[gi]at h;have E:dv (b++t)=dv t+dv b*10^t.length:=by rw[Nv,i_]
  rw[←E]at h;have Y:5≤M.next:=by rw[X];show 5≤i.next+1;omega
  rw[fA];by_cases R:k=0
  ·subst R;rw[fc,cE]at h;have l:=aq_ (w:=dv b) I D (by
    rw[h,E];have:dv b*1≤dv b*10^t.length:=fy _ O;omega)
   rw[h]at l;simp(disch:=omega)only[go_sem,Mi,Mh,L,jT,decide_true];refine⟨d.length,aa,b++t,d,v,g,by rw[f,x,eJ],rfl,?_,?_,by rw[←l];exact F,Y⟩
   iterate 2 simp only[go_sem,J,K]
  ·have l:aq (dv (b++t))=ds++[k]:=by
    rw[←h,←D];have e:W.val ds+18446744073709551616^ds.length*k=W.val (ds++[k]):=by rw[W.fF];simp[W.val]
    rw[e];refine agf (I.app (.mk S W.aA.nil)) ?_;unfold W.aO;rw[List.getLast?_append];simp;omega
   simp(disch:=omega)only[go_sem,Mi,Mh,K,L,df];refine NG F k aa fun H4 N r1 r2 be bi=>?_
   simp(disch:=omega)only[go_sem];refine⟨d.length,aa,b++t,d,_,N,by rw[f,x,eJ],rfl,?_,rfl,?_,aa⟩
   ·simp only[go_sem,J]
   ·simp only[go_sem];rw[l];exact r1
theorem an5(s:List UInt8)(f:∀c∈s,eg c)(hl:s.length≤570):aW 247 [.str s,.an] (bl (aq (dv s))):=by
 refine cO (.cons (.str _) (.cons .an .nil)) (dr _) (aT akH ?_);have g:aC .i64 ((0:Int)-1)= -1:=by rw[aH _ ag];rfl
 simp only[go_sem,d247,aae,aad,g];refine bH (fun k a b=>k=0∧rd 0 a=.str s∧rd 5 a=ah (-1)) 0 ⟨rfl,?_,?_⟩ ?_
 iterate 2 simp only[go_sem]
 rintro k a b ⟨rfl,d,e⟩;rw[aab];have h:(-1:Int)<0:=ag;simp(disch:=assumption)only[go_sem,aac,d,e,dt];refine use (an4 s f aa) ?_;simp only[go_sem]
theorem an6(s:List UInt8)(a:∀c∈s,eg c)(hl:s.length≤570):aW 187 [.str s] (bl (aq (dv s))):=by
 refine cO (.cons (.str _) .nil) (dr _) (aT akk ?_);have b:¬(570:Int)<((s.length:Nat):Int):=aa;simp(disch:=assumption)only[go_sem,d187,YO,YN,YM,df];refine use (an5 s a hl) ?_;simp only[go_sem]
theorem Cn(s:List UInt8)(a:∀c∈s,eg c)(hl:s.length≤570):aW 122 [.str s] (b5 (dv s)):=by
 refine cO (.cons (.str _) .nil) (gD _) (aT ajO ?_);simp only[go_sem,d122,VZ];refine use (an6 s a hl) ?_;simp only[go_sem];rw[hH]
section
open Go.au Tryz
set_option maxRecDepth 100000
attribute [local irreducible] rd kc ex bE bF re rg mv bS pick alloc box bi bs be bp st fa cz cN dI c8 dN eB eA ms dx ek ej dY mx mn dX ap ee cJ dZ d_ cm ec ext er neg Go.au.not en ei ep eo ey eu ef ew dR dP u8
def U1:=ai 100 f100 0
def KR:=ai 100 f100 1
def d100:=aU 100 f100
def ajy:=aR f100 100
def Vf:=ai 104 f104 0
def KV:=ai 104 f104 1
def Vg:=ai 104 f104 2
def KW:=ai 104 f104 3
def Vh:=ai 104 f104 4
def d104:=aU 104 f104
def ajC:=aR f104 104
def Vi:=ai 106 f106 0
def Vj:=ai 106 f106 1
def d106:=aU 106 f106
def ajD:=aR f106 106
def Vk:=ai 108 f108 0
def Vl:=ai 108 f108 1
def KX:=ai 108 f108 2
def d108:=aU 108 f108
def ajE:=aR f108 108
def Vm:=ai 109 f109 0
def d109:=aU 109 f109
def ajF:=aR f109 109
def KY:=ai 110 f110 0
def za:=ai 110 f110 1
def d110:=aU 110 f110
def ajG:=aR f110 110
def Vn:=ai 112 f112 0
def Vo:=ai 112 f112 1
def KZ:=ai 112 f112 2
def Vp:=ai 112 f112 3
def Vq:=ai 112 f112 4
def Vr:=ai 112 f112 5
def Vs:=ai 112 f112 6
def A6:=ai 112 f112 7
def d112:=aU 112 f112
def ajH:=aR f112 112
def A7:=ai 120 f120 0
def A8:=ai 120 f120 1
def Ep:=ai 120 f120 2
def VS:=ai 120 f120 3
def A9:=ai 120 f120 4
def VT:=ai 120 f120 5
def K2:=ai 120 f120 6
def d120:=aU 120 f120
def ajM:=aR f120 120
def XV:=ai 160 f160 0
def XW:=ai 160 f160 1
def XX:=ai 160 f160 2
def XY:=ai 160 f160 3
def d160:=aU 160 f160
def aj3:=aR f160 160
def X6:=ai 167 f167 0
def d167:=aU 167 f167
def aj7:=aR f167 167
def Ya:=ai 171 f171 0
def d171:=aU 171 f171
def aj9:=aR f171 171
def Yd:=ai 174 f174 0
def Lm:=ai 174 f174 1
def d174:=aU 174 f174
def aka:=aR f174 174
def Ye:=ai 176 f176 0
def Ln:=ai 176 f176 1
def d176:=aU 176 f176
def akb:=aR f176 176
def YB:=ai 184 f184 0
def YC:=ai 184 f184 1
def Lu:=ai 184 f184 2
def YD:=ai 184 f184 3
def YE:=ai 184 f184 4
def YF:=ai 184 f184 5
def YG:=ai 184 f184 6
def d184:=aU 184 f184
def akh:=aR f184 184
def aer:=ai 57 f57 0
def aes:=ai 57 f57 1
def d57:=aU 57 f57
def alv:=aR f57 57
def ae7:=ai 72 f72 0
def Fi:=ai 72 f72 1
def ae8:=ai 72 f72 2
def ae9:=ai 72 f72 3
def d72:=aU 72 f72
def alC:=aR f72 72
end
theorem Ho(q:Rat):aW 171 [c5 q] (ah q.num.sign):=by
 refine cO (.cons (kW _) .nil) (.int _ _) (aT aj9 ?_);have h:=asd q.num;unfold b5 dg at h;simp only[go_sem,d171,Ya,c5,b9];refine use h ?_;simp only[go_sem]
theorem QF(q:Rat):aW 174 [c5 q] (b5 (q.den:Int)):=by
 refine fE (.cons (kW _) .nil) (aT aka ?_);have a:=BX ((dd q:Nat):Int);rw[hH]at a;have d:=arX 1 ag;by_cases b:q.den=1
 ·rw[bk (by rw[ng b];rfl)]at a;simp only[go_sem,d174,Lm,c5,b9];refine use a ?_;simp only[go_sem];refine use d ?_;simp only[go_sem,b5,dg];exact iA (by rw[b];rfl) (gD _)
 ·have c:dd q=q.den:=aj b;rw[aZ (by rw[c];have:=q.den_nz;omega)]at a;simp only[go_sem,d174,Lm,Yd,c5,b9];refine use a ?_;simp only[go_sem];exact iA (by rw[c,hH]) (gD _)
theorem apR(n:Int)(d:a≠0):fL (mkRat n a)=fe n 0:=by
 have i:0<cx n.natAbs a:=Nat.gcd_pos_of_pos_right _ (ld d);obtain⟨t,b⟩:∃t,n=(cx n.natAbs a:Int)*t:=by
  have e:((cx n.natAbs a:Nat):Int)∣n:=Int.ofNat_dvd_left.2 (Nat.gcd_dvd_left _ _);exact e
 have f:(mkRat n a).num=t:=by
  rw[zI _ d];generalize cx n.natAbs a=g at*
  rw[b];exact Int.mul_tdiv_cancel_left _ aa
 unfold fL fe;rw[f];generalize cx n.natAbs a=g at*
 have c:(0:Int)<(g:Int):=aa;rcases Int.lt_trichotomy t 0 with h|h|h
 ·have:n<0:=by rw[b];exact Int.mul_neg_of_pos_of_neg c h
  rw[ak h,ak this]
 ·subst h;rw[Int.mul_zero]at b;subst b;rfl
 ·have:0<n:=by rw[b];exact Int.mul_pos c h
  rw[aj aa,aj aa,aj aa,ak this]
theorem UF(a b:Int):fe (a-b) 0=fe a b:=by
 unfold fe;split<;>split<;>(try split)<;>(try split)<;>omega
theorem Ry(p q:Rat):fL (p-q)=fe (p.num*q.den) (q.num*p.den):=by
 rw[Rat.sub_eq_add_neg,AO,Rat.neg_den,Rat.neg_num,apR _ (uX p.den_nz q.den_nz),Int.neg_mul,←Int.sub_eq_add_neg];exact UF _ _
theorem KJ{a:Int}(g:0<h)(i:0<u)(d:a.sign≠q.sign):fe (a*h) (q*u)=fe a q:=by
 have b:(0:Int)<h:=aa;have c:(0:Int)<u:=aa;rcases Int.lt_trichotomy a 0 with ha|ha|ha<;>rcases Int.lt_trichotomy q 0 with hb|hb|hb
 ·exact absurd (by rw[Int.sign_eq_neg_one_of_neg ha,Int.sign_eq_neg_one_of_neg hb]) d
 ·subst hb;have:=Int.mul_neg_of_neg_of_pos ha b;rw[Int.zero_mul,nQ this,nQ ha]
 ·have e:=Int.mul_neg_of_neg_of_pos ha b;have f:=Int.mul_pos hb c;rw[nQ aa,nQ aa]
 ·subst ha;have:=Int.mul_neg_of_neg_of_pos hb c;rw[Int.zero_mul,nP this,nP hb]
 ·subst ha hb;exact absurd rfl d
 ·subst ha;have:=Int.mul_pos hb c;rw[Int.zero_mul,nQ this,nQ hb]
 ·have e:=Int.mul_pos ha b;have f:=Int.mul_neg_of_neg_of_pos hb c;rw[nP aa,nP aa]
 ·subst hb;have:=Int.mul_pos ha b;rw[Int.zero_mul,nP this,nP ha]
 ·exact absurd (by rw[Int.sign_eq_one_of_pos ha,Int.sign_eq_one_of_pos hb]) d
theorem zf(q:Rat):aW 165 [.agg [aD,bl (aq (dd q))]] (.bool (decide (q.den=1))):=by
 have a:=BX ((dd q:Nat):Int);rw[hH]at a;have:decide (((dd q:Nat):Int)=0)=decide (q.den=1):=by
  refine decide_eq_decide.2 ?_;have:=q.den_nz;unfold dd;split
  ·rename_i h;exact⟨fun _=>h,fun _=>rfl⟩
  ·rename_i h;exact⟨fun e=>absurd e aa,fun e=>absurd e h⟩
 rw[←this];exact a
end Go.Proofs.YtddhncjmaahodaaGreatDoor
namespace Go.aF
open Go.Proofs.YtddhncjmaahodaaGreatDoor
variable{a:Nat}{z:Rat}
theorem a_.k8(h:a_ a z):gb a z.num:=h.num
theorem a_.mX(h:a_ a z):gb a (z.den:Int):=gb.nat h.den
end Go.aF
namespace Go.Proofs.YtddhncjmaahodaaGreatDoor
open Go.au Go.aF
variable{h:Nat}
theorem aoD(p q:Rat){a:Nat}(f:a_ a p)(g:a_ h q)(w:a+h≤2400):aW 110 [c5 p,c5 q] (ah (fL (p-q))):=by
 have l:=SD p.num q.num (by have:=f.k8.len (k:=100) aa;omega) (by have:=g.k8.len (k:=100) aa;omega);have o:=uN p.num q.den (by have:=f.k8.len (k:=39) aa;omega) (by have:=g.mX.len (k:=39) aa;omega);have r:=uN q.num p.den (by have:=g.k8.len (k:=39) aa;omega) (by have:=f.mX.len (k:=39) aa;omega);have n:=SD (p.num*q.den) (q.num*p.den) (by have:=(f.k8.mul g.mX (aE _)).len (k:=100) aa;omega) (by have:=(g.k8.mul f.mX (aE _)).len (k:=100) aa;omega);refine cO (.cons (kW _) (.cons (kW _) .nil)) (.int _ _) (aT ajG ?_);rw[Ry];have b:=zf p;have e:=zf q;have i:=Ho p;have j:=Ho q;have dp:=QF p;have k:=QF q;unfold b5 dg at l o r n dp k;unfold c5 b9 at i j dp k;have t:=ld p.den_nz;have u:=ld q.den_nz;have short:fe p.num q.num=fe (p.num*q.den) (q.num*p.den)→True:=fun _=>trivial
 by_cases d:p.den=1∧q.den=1
 ·rw[bk d.1]at b;rw[bk d.2]at e;simp only[go_sem,d110,za,c5,b9];refine use b ?_;simp only[go_sem];refine use e ?_;simp only[go_sem];refine use l ?_;simp only[go_sem];rw[d.1,d.2];simp
 ·by_cases v:p.num.sign=q.num.sign
  ·by_cases c:p.den=1
   ·have s:¬q.den=1:=fun m=>d ⟨c,m⟩
    rw[bk c]at b;rw[aZ s]at e;simp only[go_sem,d110,za,c5,b9];refine use b ?_;simp only[go_sem];refine use e ?_;simp only[go_sem];refine use i ?_;simp only[go_sem,true_and];refine use j ?_;simp(disch:=assumption)only[go_sem,KY,dt];refine use k ?_;simp only[go_sem,true_and];refine use o ?_;simp only[go_sem,true_and];refine use dp ?_;simp only[go_sem,true_and];refine use r ?_;simp only[go_sem];refine use n ?_;simp only[go_sem]
   ·rw[aZ c]at b;simp only[go_sem,d110,za,c5,b9];refine use b ?_;simp only[go_sem];refine use i ?_;simp only[go_sem,true_and];refine use j ?_;simp(disch:=assumption)only[go_sem,KY,dt];refine use k ?_;simp only[go_sem,true_and];refine use o ?_;simp only[go_sem,true_and];refine use dp ?_;simp only[go_sem,true_and];refine use r ?_;simp only[go_sem];refine use n ?_;simp only[go_sem]
  ·by_cases c:p.den=1
   ·have s:¬q.den=1:=fun m=>d ⟨c,m⟩
    rw[bk c]at b;rw[aZ s]at e;simp only[go_sem,d110,za,c5,b9];refine use b ?_;simp only[go_sem];refine use e ?_;simp only[go_sem];refine use i ?_;simp only[go_sem,true_and];refine use j ?_;simp(disch:=assumption)only[go_sem,df];refine use l ?_;simp only[go_sem];rw[KJ u t v]
   ·rw[aZ c]at b;simp only[go_sem,d110,za,c5,b9];refine use b ?_;simp only[go_sem];refine use i ?_;simp only[go_sem,true_and];refine use j ?_;simp(disch:=assumption)only[go_sem,df];refine use l ?_;simp only[go_sem];rw[KJ u t v]
end Go.Proofs.YtddhncjmaahodaaGreatDoor
namespace Go.aF
theorem Hp(p q:Rat)(h:p.den.gcd q.den=1):(p+q).num=p.num*q.den+q.num*p.den∧(p+q).den=p.den*q.den:=by
 show(Rat.add p q).num=_∧(Rat.add p q).den=_;unfold Rat.add;simp only[h,dite_true,and_self]
theorem aoI(p q:Rat)(h:p.den.gcd q.den≠1)(n:Int)(c:n=p.num*((q.den/p.den.gcd q.den:Nat):Int)+q.num*((p.den/p.den.gcd q.den:Nat):Int))(g:Nat)(b:g=n.natAbs.gcd (p.den.gcd q.den)):(p+q).num=n.tdiv g∧(p+q).den=p.den/p.den.gcd q.den*q.den/g:=by
 subst c b;show(Rat.add p q).num=_∧(Rat.add p q).den=_;unfold Rat.add;simp only[h,dite_false];unfold Rat.maybeNormalize;split
 ·rename_i a;simp only[a];simp
 ·simp only[Int.divExact_eq_tdiv,Nat.divExact_eq_div,and_self]
variable{z:Rat}
theorem QK(h:z.num=0):z=0:=Rat.num_eq_zero.1 h
end Go.aF
namespace Go.Proofs.YtddhncjmaahodaaGreatDoor
open Go.au Go.aF
variable{h:Nat}
theorem nleb{a:Nat}(b:bM a h=true):a≤h:=mh b
theorem nlrf(a:Nat):a≤a:=aE a
variable{c:af}
theorem e8(h:GT c:=by repeat (first|exact fB|refine GT.set ?_ (nleb rfl) _|refine GT.push ?_ (nleb rfl) _)):GT c:=h
variable{z:Rat}
theorem ahv(a:z.den=1):∃u,bR c (af.zero c.next) (.agg [.bool (decide (z.num<0)),bl (aq z.num.natAbs),aD,.an]) u∧bz u∧u=c5 z:=by
 refine⟨_,.agg (.cons (.same _) (.cons (.same _) (.cons (.same _) (.cons .fK .nil)))),?_⟩;have e:V.row 0 []=bl (aq (dd z)):=by rw[ng a,jY];rfl
 rw[e];exact⟨kW z,rfl⟩
theorem ahu(b:GT c)(a:z.den=1):GT c∧∃u,bR c (cZ.mz c.next) (.agg [.bool (decide (z.num<0)),bl (aq z.num.natAbs),aD,.an]) u∧bz u∧u=c5 z:=by
 refine⟨b,_,.agg (.cons (.same _) (.cons (.same _) (.cons (.same _) (.cons .fK .nil)))),?_⟩;have e:V.row 0 []=bl (aq (dd z)):=by rw[ng a,jY];rfl
 rw[e];exact⟨kW z,rfl⟩
theorem Oq(b:GT c)(a:z=0):GT c∧∃u,bR c (cZ.mz c.next) (.agg [aD,.an,aD,.an]) u∧bz u∧u=c5 z:=by
 subst a;refine⟨b,_,.agg (.cons (.same _) (.cons .fK (.cons (.same _) (.cons .fK .nil)))),?_⟩;have e:V.agg [aD,.row 0 [],aD,.row 0 []]=c5 0:=by
  unfold c5 b9;rw[show(0:Rat).num=0 from rfl,show dd 0=0 from rfl,Int.natAbs_zero,jY];rfl
 rw[e];exact⟨kW 0,rfl⟩
theorem QG(q:Rat):aW 176 [b5 q.num,b5 (q.den:Int)] (c5 q):=by
 refine fE (.cons (gD _) (.cons (gD _) .nil)) (aT akb ?_);have a:=AA (q.den:Int);have c:decide ((q.den:Int)=1)=decide (q.den=1):=decide_eq_decide.2 aa;rw[c]at a;unfold b5 dg at a;by_cases b:q.den=1
 ·rw[bk b]at a;simp only[go_sem,d176,Ln,b5,dg];refine use a ?_;simp only[go_sem];exact ahv b
 ·rw[aZ b]at a;simp only[go_sem,d176,Ln,Ye,b5,dg];refine use a ?_;simp only[go_sem];refine iA ?_ (kW _);unfold c5 b9;rw[jK b,aZ (aa:¬((q.den:Int)<0)),dB]
theorem PU(a b:Nat):mg (a:Int) (b:Int)=((a/b:Nat):Int):=rfl
variable{a:Nat}{q:Int}
theorem gY{k:Nat}(b:gb a q)(c:a≤64*k)(d:k<h):(aq q.natAbs).length<h:=eY (b.len c) d
set_option maxHeartbeats 1000000 in
theorem aoA(p q:Rat){a b:Nat}(h:a_ a p)(d:a_ b q)(aw:a+b+1≤1900):c4 112 [c5 p,c5 q] (c5 (p+q)):=by
 refine dm (.cons (kW _) (.cons (kW _) .nil)) (aT ajH ?_);have j:=zf p;have o:=zf q;have ar:=p.den_nz;have ac:=q.den_nz;by_cases l:p.den=1
 ·rw[bk l]at j;have f:=uN p.num q.den (gY h.k8 (k:=38) aa ag) (gY d.mX (k:=38) aa ag);have S:=Da p.num q.num (gY h.k8 (k:=38) aa ag) (gY d.k8 (k:=38) aa ag);have w:=Da (p.num*q.den) q.num (gY (h.k8.mul d.mX (aE _)) (k:=38) aa ag) (gY d.k8 (k:=38) aa ag);have m:p.den.gcd q.den=1:=by rw[l];exact Nat.gcd_one_left _
  obtain⟨i,e⟩:=Hp p q m;rw[l,ga]at e;rw[l,show((1:Nat):Int)=1 from rfl,Int.mul_one]at i;by_cases c:q.den=1
  ·rw[bk c]at o;rw[c,show((1:Nat):Int)=1 from rfl,Int.mul_one]at i;rw[c]at e;unfold b5 dg at S;simp only[go_sem,d112,A6,c5,b9];refine use j ?_;simp only[go_sem];refine use o ?_;simp only[go_sem];refine use S ?_;simp only[go_sem];rw[←i];exact ahu e8 e
  ·rw[aZ c]at o;rw[hH,←jK c]at f;unfold b5 dg at f w;rw[jK c]at f;simp only[go_sem,d112,A6,c5,b9];refine use j ?_;simp only[go_sem];refine use o ?_;simp only[go_sem];refine use j ?_;simp only[go_sem];rw[jK c];refine use f ?_;simp only[go_sem,true_and];refine use w ?_;simp only[go_sem,true_and];refine bZ e8 ?_ (kW _);rw[i,jK (q:=p+q) (by rw[e];exact c),e]
 ·rw[aZ l]at j;by_cases c:q.den=1
  ·rw[bk c]at o;have m:p.den.gcd q.den=1:=by rw[c];exact Nat.gcd_one_right _
   obtain⟨i,e⟩:=Hp p q m;rw[c,dF]at e;rw[c,show((1:Nat):Int)=1 from rfl,Int.mul_one,Int.add_comm]at i;have f:=uN q.num p.den (gY d.k8 (k:=38) aa ag) (gY h.mX (k:=38) aa ag);have w:=Da (q.num*p.den) p.num (gY (d.k8.mul h.mX (aE _)) (k:=38) aa ag) (gY h.k8 (k:=38) aa ag);rw[hH]at f;unfold b5 dg at f w;simp only[go_sem,d112,A6,c5,b9];rw[jK l]at j⊢;refine use j ?_;simp only[go_sem];refine use j ?_;simp only[go_sem];refine use o ?_;simp only[go_sem];refine use f ?_;simp only[go_sem,true_and];refine use w ?_;simp only[go_sem,true_and];refine bZ e8 ?_ (kW _);rw[i,jK (q:=p+q) (by rw[e];exact l),e]
  ·rw[aZ c]at o;rw[jK l]at j;rw[jK c]at o;obtain⟨g,bF⟩:∃g,g=p.den.gcd q.den:=⟨_,rfl⟩;have ap:0<g:=by rw[bF];exact Nat.gcd_pos_of_pos_left _ (ld ar)
   have a1:g∣p.den:=by rw[bF];exact Nat.gcd_dvd_left _ _
   have X:g∣q.den:=by rw[bF];exact Nat.gcd_dvd_right _ _
   have Y:((g:Nat):Int)≠0:=aa;have L:gb b (g:Int):=gb.nat (eY (Nat.le_of_dvd (ld ac) X) d.den);have K:=Dd (p.den:Int) (q.den:Int) (gY h.mX (k:=38) aa ag) (gY d.mX (k:=38) aa ag);rw[dB,dB,←bF]at K;have C:=De (q.den:Int) (g:Int) Y (gY d.mX (k:=38) aa ag) (gY L (k:=38) aa ag);have D:=De (p.den:Int) (g:Int) Y (gY h.mX (k:=38) aa ag) (gY L (k:=38) aa ag);rw[PU]at C D;obtain⟨fI,A⟩:∃x,x=q.den/g:=⟨_,rfl⟩;obtain⟨s,v⟩:∃x,x=p.den/g:=⟨_,rfl⟩;rw[←A]at C;rw[←v]at D;have Z:gb b (fI:Int):=gb.nat (eY (by rw[A];exact jn _ _) d.den);have P:gb a (s:Int):=gb.nat (eY (by rw[v];exact jn _ _) h.den);have f:=uN p.num fI (gY h.k8 (k:=38) aa ag) (gY Z (k:=38) aa ag);have M:=uN q.num s (gY d.k8 (k:=38) aa ag) (gY P (k:=38) aa ag);have Q:=h.k8.mul Z (aE _);have R:=d.k8.mul P (aE _);have J:=Da (p.num*fI) (q.num*s) (gY Q (k:=38) aa ag) (gY R (k:=38) aa ag);have H:gb (a+b+1) (p.num*fI+q.num*s):=Q.add R aa aa;obtain⟨n,bE⟩:∃n,n=p.num*fI+q.num*s:=⟨_,rfl⟩;rw[←bE]at J H;have T:=BX n;have u:=AA (g:Int);have e1:decide ((g:Int)=1)=decide (g=1):=decide_eq_decide.2 aa;rw[e1]at u;rw[hH,hH,hH]at K;rw[hH,hH,hH]at C D;rw[hH]at f M u;unfold b5 dg at f M J T;simp only[go_sem,d112,A6,c5,b9];rw[jK l,jK c];refine use j ?_;simp only[go_sem];refine use j ?_;simp only[go_sem];refine use o ?_;simp only[go_sem,Vs];refine bL K e8 ?_;simp only[go_sem,Vr];refine use C ?_;simp only[go_sem,true_and];refine use D ?_;simp only[go_sem,Vq];refine use f ?_;simp only[go_sem,true_and];refine use M ?_;simp only[go_sem];refine use J ?_;simp only[go_sem,Vp];refine use T ?_;by_cases m:g=1
   ·have O:p.den.gcd q.den=1:=by rw[←bF];exact m
    obtain⟨i,e⟩:=Hp p q O;have ab:n=(p+q).num:=by
     rw[i,bE,A,v,m,qc,qc]
    by_cases t:n=0
    ·rw[bk t];simp only[go_sem];exact Oq e8 (QK (by rw[←ab];exact t))
    ·rw[aZ t];rw[bk m]at u;have N:=uN (p.den:Int) (q.den:Int) (gY h.mX (k:=38) aa ag) (gY d.mX (k:=38) aa ag);rw[←fU,←e,hH p.den,hH q.den]at N;have r:=QG (p+q);rw[←ab]at r;unfold c5 b9 at r;unfold b5 dg at r N;simp only[go_sem,KZ];refine use u ?_;simp only[go_sem];refine use N ?_;simp only[go_sem,true_and];refine use r ?_;simp only[go_sem];exact bZ e8 rfl (kW _)
   ·have O:p.den.gcd q.den≠1:=by rw[←bF];exact m
    obtain⟨k,z⟩:∃x,x=n.natAbs.gcd g:=⟨_,rfl⟩;obtain⟨i,e⟩:=aoI p q O n (by rw[←bF,←A,←v];exact bE) k (by rw[←bF];exact z);rw[←bF,←v]at e;by_cases t:n=0
    ·rw[bk t];simp only[go_sem];exact Oq e8 (QK (by rw[i,t,Int.zero_tdiv]))
    ·rw[aZ t];rw[aZ m]at u;have a0:0<k:=by rw[z];exact Nat.gcd_pos_of_pos_right _ ap
     have am:k∣g:=by rw[z];exact Nat.gcd_dvd_right _ _
     have V:k∣q.den:=tF am X;have W:((k:Nat):Int)≠0:=aa;have U:gb b (k:Int):=gb.nat (eY (Nat.le_of_dvd (ld ac) V) d.den);have B:=Dd n (g:Int) (gY H (k:=38) aa ag) (gY L (k:=38) aa ag);rw[dB,←z]at B;have F:=De n (k:Int) W (gY H (k:=38) aa ag) (gY U (k:=38) aa ag);have G:=De (q.den:Int) (k:Int) W (gY d.mX (k:=38) aa ag) (gY U (k:=38) aa ag);rw[PU]at G;rw[←i]at F;obtain⟨y,I⟩:∃x,x=q.den/k:=⟨_,rfl⟩;rw[←I]at G;have al:gb b (y:Int):=gb.nat (eY (by rw[I];exact jn _ _) d.den);have E:=uN (s:Int) (y:Int) (gY P (k:=38) aa ag) (gY al (k:=38) aa ag);have ae:s*y=(p+q).den:=by rw[e,I,Nat.mul_div_assoc _ V]
     rw[←fU,ae]at E;have r:=QG (p+q);unfold c5 b9 at r;rw[hH,hH]at B;rw[hH]at F;rw[hH,hH,hH]at G;rw[hH s,hH y]at E;unfold b5 dg at r E B F;simp only[go_sem,KZ];refine use u ?_;simp only[go_sem,Vo];refine bL B e8 ?_;simp only[go_sem,Vn];refine use F ?_;simp only[go_sem,true_and];refine use G ?_;simp only[go_sem,true_and];refine use E ?_;simp only[go_sem];refine use r ?_;simp only[go_sem];exact bZ e8 rfl (kW _)
theorem ark(h:z.den=1):bh z=zt z.num:=by
 unfold bh zt;rw[ak h,fG]
theorem arh(h:z.den≠1):bh z=zt z.num++[47]++zt (z.den:Int):=by
 have a:zt (z.den:Int)=dec z.den:=by rw[Dj aa,dB]
 rw[a];unfold bh zt;rw[aj h];simp
theorem ahl(z:Int)(a: -9223372036854775808≤z∧z<9223372036854775808):c4 167 [ah z] (.str (zt z)):=by
 refine dm (.cons (.int _ _) .nil) (aT aj7 ?_);simp only[go_sem,d167,X6];refine bL (ahf z a) fB ?_;simp only[go_sem];exact bZ fB rfl (.str _)
theorem SL(h:(aq q.natAbs).length≤30):(zt q).length≤602:=by
 have:=Nl h;unfold zt;split<;>simp<;>omega
theorem aoF(q:Rat)(p:a_ a q)(B:a≤1900):c4 108 [c5 q] (.str (bh q)):=by
 refine dm (.cons (kW _) .nil) (aT ajE ?_);have c:=zf q;have i:=p.k8.len (k:=30) aa;have bp:=p.mX.len (k:=30) aa;have hi:=arV q.num aa;have r:=ase q.num i;unfold b5 dg at hi r;by_cases b:q.den=1
 ·rw[bk b]at c;rw[ark b];simp only[go_sem,d108,KX,c5,b9];refine use c ?_;simp only[go_sem];refine use hi ?_;unfold sN;by_cases e: -9223372036854775808≤q.num∧q.num<9223372036854775808
  ·rw[ak e];simp only[go_sem];refine bL (ahl q.num e) e8 ?_;simp only[go_sem];exact bZ e8 rfl (.str _)
  ·rw[aj e];simp only[go_sem];refine bL r e8 ?_;simp only[go_sem];exact bZ e8 rfl (.str _)
 ·rw[aZ b]at c;rw[arh b];have G:=SL i;have H:=SL bp;simp only[go_sem,d108,KX,Vl,c5,b9];refine use c ?_;simp only[go_sem];have n:GT (cZ.push (.cells (b9 q) 0)):=fB.push ag _;have k:=Ix q.num i (cZ.push (.cells (b9 q) 0)) (fm.rF (l:=[]) (m:=2000) .nil ag) (by simp;omega) n (by show 5≤6;decide) (.inl rfl);unfold b5 dg at k;refine k.mono ?_;rintro I v ⟨E,t,u⟩;rw[eI]at t;have C:6≤v.next:=u.next
  simp only[go_sem];refine C7 t 47 aa aa rfl ?_;intro J j f y s;have g:=u.trans s;have D:=s.next
  have o:f=0∨5≤f:=by
   rcases g.key with h|⟨_,h⟩
   ·exact .inl h
   ·have A:6<f:=h;omega
  have m:=BS g n (by show 5≤6;decide) (.inl rfl);have d:j.get 5=.cells (b9 q) 0:=by
   rw[g.keep 5 (by show 5<6;decide) (.inl rfl),af.bf,ak PY]
  unfold b9 at d;rw[jK b]at d;simp only[go_sem,Vk,d];have l:=Ix (q.den:Int) bp j y (by simp;omega) m aa o;rw[hH]at l;refine l.mono ?_;rintro K z ⟨F,w,x⟩;simp only[go_sem,w.str];exact bZ (BS x m aa o) rfl (.str _)
end Go.Proofs.YtddhncjmaahodaaGreatDoor
namespace Go.aF
def zq(c:UInt8):Bool:=decide (eg c)
def e3(s:List UInt8):List UInt8:=s.takeWhile zq
def gh(s:List UInt8):List UInt8:=s.dropWhile zq
theorem vg(s:List UInt8):e3 s++gh s=s:=List.takeWhile_append_dropWhile
theorem sD(s:List UInt8):∀c∈e3 s,eg c:=by
 induction s with
 |nil=>intro c h;cases h
 |cons a s b=>
  intro c h;unfold e3 at h b;rw[List.takeWhile_cons]at h;split at h
  ·rename_i d;rcases g7.1 h with rfl|h
   ·exact of_decide_eq_true d
   ·exact b c h
  ·cases h
variable{j:List UInt8}
theorem apG{c:UInt8}{t:List UInt8}(h:gh j=c::t):¬eg c:=by
 induction j with
 |nil=>cases h
 |cons a j b=>
  unfold gh at h b;rw[List.dropWhile_cons]at h;split at h
  ·exact b h
  ·rename_i d;cases h;exact fun e=>d (bk e)
theorem Nm{a b:List UInt8}(d:∀c∈a,eg c)(h:∀c t,b=c::t→¬eg c):e3 (a++b)=a∧gh (a++b)=b:=by
 induction a with
 |nil=>
  cases b with
  |nil=>exact⟨rfl,rfl⟩
  |cons c t=>
   have:=h c t rfl;unfold e3 gh;rw[eI,List.takeWhile_cons,List.dropWhile_cons,aj (by unfold zq;simpa using this),aj (by unfold zq;simpa using this)];exact⟨rfl,rfl⟩
 |cons x a j=>
  obtain⟨f,g⟩:=j (fun c i=>d c (by simp[i]));have e:zq x=true:=bk (d x aB);unfold e3 gh at*;rw[eS,List.takeWhile_cons,List.dropWhile_cons,ak e,ak e,f,g];exact⟨rfl,rfl⟩
structure yO where
 neg:Bool
 num:List UInt8
 den:List UInt8
 ok:Bool
def dO(s:List UInt8):yO:=
 let neg:=decide (s.take 1=[45]);let r:=if s.take 1=[45]then s.drop 1 else s
 let n:=e3 r;let t:=gh r
 if n=[48]then⟨neg,n,[], !neg&&decide (t=[])⟩
 else if n=[]∨n.head?=some 48 then⟨neg,n,[],false⟩
 else if t=[]then⟨neg,n,[],true⟩
 else if t.head?≠some 47 then⟨neg,n,[],false⟩
 else⟨neg,n,e3 (t.drop 1),decide (gh (t.drop 1)=[]∧e3 (t.drop 1)≠[]∧(e3 (t.drop 1)).head?≠some 48∧e3 (t.drop 1)≠[49])⟩
end Go.aF
namespace Go.Proofs.YtddhncjmaahodaaGreatDoor
open Go.au Go.aF
def mP(p:yO):V:=.az [.agg [.bool p.neg,.str p.num,.str p.den],.bool p.ok]
theorem agV(p:yO):bz (mP p):=.az (.cons (.agg (.cons (.bool _) (.cons (.str _) (.cons (.str _) .nil)))) (.cons (.bool _) .nil))
theorem KP(s:List UInt8)(hl:s.length≤1000000000):aW 186 [.str s] (.az [.str (e3 s),.str (gh s)]):=by
 have h:=UZ (e3 s) (gh s) (sD s) (fun c l e=>apG e) (by rw[←aS,vg];exact hl);rw[vg]at h;exact h
theorem Nn(s:List UInt8):(e3 s).length≤s.length:=by
 have:=congrArg ku (vg s);rw[aS]at this;omega
theorem HV(s:List UInt8)(hl:s.length≤1000000000):aW 121 [.str s] (mP (dO s)):=by
 have u:=U0 s hl;refine cO (.cons (.str _) .nil) (agV _) (aT ajN ?_);obtain⟨neg,w⟩:∃b,b=decide (s.take 1=[45]):=⟨_,rfl⟩;obtain⟨r,f⟩:∃r,r=if s.take 1=[45]then s.drop 1 else s:=⟨_,rfl⟩
 have W:aW 185 [.str s,.str [45]] (.az [.str r,.bool neg]):=by
  by_cases h:s.take 1=[45]
  ·rw[ak h]at u f;rw[w,f,bk h];exact u
  ·rw[aj h]at u f;rw[w,f,aZ h];exact u
 have X:r.length≤1000000000:=by
  rw[f];split
  ·rw[gZ];omega
  ·exact hl
 have R:=KP r X;have P:dO s=(if e3 r=[48]then(⟨neg,e3 r,[], !neg&&decide (gh r=[])⟩:yO)else if e3 r=[]∨(e3 r).head?=some 48 then⟨neg,e3 r,[],false⟩else if gh r=[]then⟨neg,e3 r,[],true⟩else if(gh r).head?≠some 47 then⟨neg,e3 r,[],false⟩else⟨neg,e3 r,e3 ((gh r).drop 1),decide (gh ((gh r).drop 1)=[]∧e3 ((gh r).drop 1)≠[]∧(e3 ((gh r).drop 1)).head?≠some 48∧e3 ((gh r).drop 1)≠[49])⟩):=by
  rw[w,f];rfl
 rw[P];clear P u f w;have Q:(gh r).length≤r.length:=by
  have:=congrArg ku (vg r);rw[aS]at this;omega
 generalize e3 r=n at*
 generalize gh r=t at*
 simp only[go_sem,d121,VY,VX];refine use W ?_;simp only[go_sem,VW,VV];refine use R ?_;by_cases z:n=[48]
 ·rw[ak z];have a:decide (n=[48])=true:=bk z;cases neg with
  |true=>
   simp only[go_sem,vf,a,mP];rfl
  |false=>
   simp only[go_sem,vf,a,mP];rfl
 ·rw[aj z];have a:decide (n=[48])=false:=aZ z;by_cases k:n=[]
  ·rw[ak (.inl k)];have i:decide (n=[])=true:=bk k;simp only[go_sem,vf,a,i,mP]
  ·obtain⟨c,m,N⟩:∃c m,n=c::m:=by
    cases n with
    |nil=>exact absurd rfl k
    |cons c m=>exact⟨c,m,rfl⟩
   have i:decide (n=[])=false:=aZ k;have H:kF [.str n,ah 0]=some (.val (.int .u8 (c.toNat:Int))):=oE ag (by rw[N];rfl);by_cases A:c=48
   ·rw[ak (.inr (by rw[N,A];rfl))];have p:decide (((c.toNat:Nat):Int)=48)=true:=bk (by rw[A];rfl);simp only[go_sem,vf,a,i,H,p,mP]
   ·have U:¬(n=[]∨n.head?=some 48):=by
     rintro(h|h)
     ·exact k h
     ·rw[N]at h;exact A (by simpa using h)
    rw[aj U];have p:decide (((c.toNat:Nat):Int)=48)=false:=aZ fun e=>A (wT.1 (by show c.toNat=48;omega))
    by_cases l:t=[]
    ·rw[ak l];have F:decide (t=[])=true:=bk l;simp only[go_sem,vf,a,i,H,p,F,mP]
    ·rw[aj l];obtain⟨x,v,g⟩:∃c m,t=c::m:=by
      cases t with
      |nil=>exact absurd rfl l
      |cons c m=>exact⟨c,m,rfl⟩
     have F:decide (t=[])=false:=aZ l;have O:kF [.str t,ah 0]=some (.val (.int .u8 (x.toNat:Int))):=oE ag (by rw[g];rfl);by_cases B:x=47
     ·have L:¬t.head?≠some 47:=fun h=>h (by rw[g,B];rfl)
      rw[aj L];have I:decide (((x.toNat:Nat):Int)=47)=true:=bk (by rw[B];rfl);have T:t.drop 1=v:=by rw[g];rfl
      have Y:slice3 k4 true false false [.str t,ah 1]=some (.val (.str v)):=by
       rw[we ⟨ag,by rw[g];simp;omega⟩,g];rfl
      have S:=KP v (by rw[g]at Q;simp at Q;omega);rw[T];generalize e3 v=d at*
      generalize gh v=e at*
      simp only[go_sem,vf,VU,a,i,H,p,F,O,I,Y];refine use S ?_;by_cases C:e=[]
      ·have j:decide (e=[])=true:=bk C;by_cases o:d=[]
       ·have q:decide (d=[])=true:=bk o;simp only[go_sem,zb,j,q,mP];rw[aZ (fun h=>h.2.1 o)]
       ·obtain⟨y,Z,K⟩:∃c m,d=c::m:=by
         cases d with
         |nil=>exact absurd rfl o
         |cons c m=>exact⟨c,m,rfl⟩
        have q:decide (d=[])=false:=aZ o;have M:kF [.str d,ah 0]=some (.val (.int .u8 (y.toNat:Int))):=oE ag (by rw[K];rfl);by_cases D:y=48
        ·have G:decide (((y.toNat:Nat):Int)=48)=true:=bk (by rw[D];rfl);simp only[go_sem,zb,j,q,M,G,mP];rw[aZ (fun h=>h.2.2.1 (by rw[K,D];rfl))]
        ·have G:decide (((y.toNat:Nat):Int)=48)=false:=aZ fun e=>D (wT.1 (by show y.toNat=48;omega))
         have V:d.head?≠some 48:=by rw[K];simpa using D
         by_cases E:d=[49]
         ·have J:decide (d=[49])=true:=bk E;simp only[go_sem,zb,j,q,M,G,J,mP];rw[aZ (fun h=>h.2.2.2 E)];trivial
         ·have J:decide (d=[49])=false:=aZ E;simp only[go_sem,zb,j,q,M,G,J,mP];rw[bk (⟨C,o,V,E⟩:_∧_∧_∧_)];trivial
      ·have j:decide (e=[])=false:=aZ C;simp only[go_sem,zb,j,mP];rw[aZ (fun h=>C h.1)]
     ·have L:t.head?≠some 47:=by rw[g];simpa using B
      rw[ak L];have I:decide (((x.toNat:Nat):Int)=47)=false:=aZ fun e=>B (wT.1 (by show x.toNat=47;omega))
      simp only[go_sem,vf,a,i,H,p,F,O,I,mP]
end Go.Proofs.YtddhncjmaahodaaGreatDoor
namespace Go.aF
def tR(q:Rat):List UInt8:=if q.den=1 then []else dec q.den
def numOf(s:List UInt8):Option Rat:=
 if(dO s).ok=true∧((dO s).den=[]∨cx (dv (dO s).num) (dv (dO s).den)=1)then
  some (mkRat (if(dO s).neg then-(dv (dO s).num:Int)else(dv (dO s).num:Int)) (if(dO s).den=[]then 1 else dv (dO s).den))
 else none
variable{a:Nat}
theorem Nj(h:a≠0):(dec a).head?≠some 48:=by
 have b:dec a=ds a:=aj h;rw[b];cases e:ds a with
 |nil=>simp
 |cons c l=>simpa using af9 a c l e
theorem Nh:dec a=[48]↔a=0:=by
 constructor
 ·intro h;have b:dec 0=[48]:=rfl;exact Fs (h.trans b.symm)
 ·intro h;rw[h];rfl
theorem Ni:dec a=[49]↔a=1:=by
 have b:dec 1=[49]:=by
  show(if 1=0 then _ else ds 1)=_;rw[aj ag,qo ag,show 1/10=0 from rfl,nh];rfl
 constructor
 ·intro h;exact Fs (h.trans b.symm)
 ·intro h;rw[h];exact b
variable{j:List UInt8}
theorem Nx(f:∀c∈j,eg c)(d:j≠[])(h:j.head?≠some 48):dec (dv j)=j∧dv j≠0:=by
 have a:ds (dv j)=j:=af8 f (fun c m e=>by rw[e]at h;simpa using h);have b:dv j≠0:=fun e=>by rw[e,nh]at a;exact d a.symm
 exact⟨(aj b).trans a,b⟩
theorem CQ(q:Rat):dO (bh q)=⟨decide (q.num<0),dec q.num.natAbs,tR q,true⟩:=by
 obtain⟨r,b⟩:∃r,r=(if q.den=1 then([]:List UInt8)else 47::dec q.den):=⟨_,rfl⟩;have o:bh q=(if q.num<0 then [45]else [])++(dec q.num.natAbs++r):=by rw[b];rfl
 have x:∀c t,r=c::t→¬eg c:=by
  intro c t e;rw[b]at e;split at e
  ·cases e
  ·cases e;decide
 obtain⟨s,u⟩:=Nm (o8 q.num.natAbs) x;have k:¬(dec q.num.natAbs++r).take 1=[45]:=by
  intro j;cases f:dec q.num.natAbs with
  |nil=>exact o9 _ f
  |cons c m=>
   rw[f]at j;have:c=45:=by simpa using j
   have l:=o8 q.num.natAbs c (by rw[f];simp);rw[this]at l;exact absurd l ag
 have v:decide ((bh q).take 1=[45])=decide (q.num<0):=by
  refine decide_eq_decide.2 ?_;rw[o];by_cases h:q.num<0
  ·rw[ak h];exact⟨fun _=>h,fun _=>rfl⟩
  ·rw[aj h,eI];exact⟨fun e=>absurd e k,fun e=>absurd e h⟩
 have y:(if(bh q).take 1=[45]then(bh q).drop 1 else bh q)=dec q.num.natAbs++r:=by
  rw[o];by_cases h:q.num<0
  ·rw[ak h];rfl
  ·rw[aj h,eI,aj k]
 unfold dO;simp only[v,y,s,u];by_cases p:q.num=0
 ·have a:q.den=1:=by rw[Rat.num_eq_zero.1 p];rfl
  rw[ak (Nh.2 aa),b,ak a];unfold tR;rw[ak a,aZ (aa:¬q.num<0)];rfl
 ·have n:q.num.natAbs≠0:=aa;rw[aj (fun e=>n (Nh.1 e)),aj (by rintro(h|h);exact o9 _ h;exact Nj n h)];by_cases a:q.den=1
  ·have d:r=[]:=by rw[b,ak a]
   rw[ak d];unfold tR;rw[ak a]
  ·have d:r=47::dec q.den:=by rw[b,aj a]
   obtain⟨g,i⟩:=Nm (a:=dec q.den) (b:=[]) (o8 q.den) (fun c t h=>by cases h);rw[fG]at g i;rw[aj (by rw[d];simp),aj (by rw[d];simp),d];simp only[List.drop_succ_cons,List.drop_zero,g,i];unfold tR;have w:decide (True∧dec q.den≠[]∧(dec q.den).head?≠some 48∧dec q.den≠[49])=true:=bk ⟨trivial,o9 _,Nj q.den_nz,fun e=>a (Ni.1 e)⟩;rw[aj a,w]
theorem pF(q:Rat):numOf (bh q)=some q:=by
 unfold numOf;rw[CQ];simp only[nR];have b:(if decide (q.num<0)=true then-(q.num.natAbs:Int)else(q.num.natAbs:Int))=q.num:=by
  by_cases h:q.num<0
  ·rw[ak (bk h)];omega
  ·rw[aj (by simpa using h)];omega
 unfold tR;by_cases a:q.den=1
 ·rw[ak a,ak ⟨trivial,.inl rfl⟩,ak rfl,b];congr 1;rw[←a];exact Rat.mkRat_self q
 ·rw[aj a,nR,ak ⟨trivial,.inr q.reduced⟩,aj (o9 _),b];congr 1;exact Rat.mkRat_self q
theorem aqO(h:j.take 1=[45]):j=45::j.drop 1:=by
 cases j with
 |nil=>cases h
 |cons c t=>
  have:c=45:=by simpa using h
  rw[this];rfl
variable{h:Nat}
theorem Sf{neg:Bool}(g:a≠0)(e:h≠0)(f:cx a h=1):bh (mkRat (if neg then-(a:Int)else(a:Int)) h)=(if neg then [45]else [])++(dec a++(if h=1 then []else 47::dec h)):=by
 have b:(if neg then-(a:Int)else(a:Int)).natAbs=a:=by cases neg<;>simp
 obtain⟨c,d⟩:=mk_one (n:=if neg then-(a:Int)else(a:Int)) e (by rw[b];exact f);unfold bh;rw[c,d,b];cases neg with
 |true=>rw[ak (by simp;omega)];rfl
 |false=>rw[aj aB];rfl
variable{z:Rat}
theorem vQ(h:numOf j=some z):j=bh z:=by
 unfold numOf at h;split at h
 ·rename_i E;obtain⟨a,g⟩:=E;have f:=Option.some.inj h;clear h;obtain⟨neg,l⟩:∃b,b=decide (j.take 1=[45]):=⟨_,rfl⟩;obtain⟨r,o⟩:∃r,r=if j.take 1=[45]then j.drop 1 else j:=⟨_,rfl⟩
  have w:j=(if neg then [45]else [])++r:=by
   by_cases h:j.take 1=[45]
   ·rw[l,o,ak h,bk h,ak rfl];exact aqO h
   ·rw[l,o,aj h,aZ h];rfl
  have L:dO j=(if e3 r=[48]then(⟨neg,e3 r,[], !neg&&decide (gh r=[])⟩:yO)else if e3 r=[]∨(e3 r).head?=some 48 then⟨neg,e3 r,[],false⟩else if gh r=[]then⟨neg,e3 r,[],true⟩else if(gh r).head?≠some 47 then⟨neg,e3 r,[],false⟩else⟨neg,e3 r,e3 ((gh r).drop 1),decide (gh ((gh r).drop 1)=[]∧e3 ((gh r).drop 1)≠[]∧(e3 ((gh r).drop 1)).head?≠some 48∧e3 ((gh r).drop 1)≠[49])⟩):=by
   rw[l,o];rfl
  clear l o;have v:=vg r;have J:=sD r;rw[L]at a g f;generalize e3 r=n at*
  generalize gh r=t at*
  by_cases s:n=[48]
  ·rw[ak s]at a g f;have k:neg=false∧t=[]:=by
    have:(!neg&&decide (t=[]))=true:=a;simpa using this
   obtain⟨rfl,rfl⟩:=k;subst s;rw[w,←v,←f];rfl
  ·rw[aj s]at a g f;by_cases k:n=[]∨n.head?=some 48
   ·rw[ak k]at a;exact absurd a tA
   ·rw[aj k]at a g f;obtain⟨A,B⟩:=Nx J (fun e=>k (.inl e)) (fun e=>k (.inr e));by_cases p:t=[]
    ·rw[ak p]at a g f;subst p;simp only[if_true]at f;rw[w,←v,←f,Sf B ag (Nat.gcd_one_right _),A,ak rfl]
    ·rw[aj p]at a g f;by_cases u:t.head?≠some 47
     ·rw[ak u]at a;exact absurd a tA
     ·rw[aj u]at a g f;obtain⟨i,x⟩:∃i,t=47::i:=by
       cases t with
       |nil=>exact absurd rfl p
       |cons c m=>
        have:c=47:=by simpa using u
        exact⟨m,by rw[this]⟩
      have H:t.drop 1=i:=by rw[x];rfl
      rw[H]at a g f;have K:=vg i;have G:=sD i;generalize e3 i=d at*
      generalize gh i=e at*
      obtain⟨C,q,g3,D⟩:=of_decide_eq_true a;obtain⟨y,M⟩:=Nx G q g3;have I:cx (dv n) (dv d)=1:=g.resolve_left q;have F:dv d≠1:=fun e=>D (by rw[←y,e];exact Ni.2 rfl)
      simp only[aj q]at f;rw[w,←v,←f,Sf B M I,A,y,aj F,x,←K,C,fG]
 ·cases h
end Go.aF
namespace Go.Proofs.YtddhncjmaahodaaGreatDoor
open Go.au Go.aF
def uz(z:Int)(d:List UInt8):V:=if d=[]∨cx z.natAbs (dv d)=1 then .az [.agg [.bool (decide (z<0)),bl (aq z.natAbs),aD,bl (if d=[]then []else aq (dv d))],bO]else .az [c5 0,aD]
theorem QC:V.agg [aD,.row 0 [],aD,.row 0 []]=c5 0:=by
 unfold c5 b9;rw[show(0:Rat).num=0 from rfl,show dd 0=0 from rfl,Int.natAbs_zero,jY];rfl
variable{c:af}
theorem Ok(a:GT c):GT c∧∃u,bR c (cZ.mz c.next) (.az [.agg [aD,.an,aD,.an],aD]) u∧bz u∧u=.az [c5 0,aD]:=by
 refine⟨a,_,.az (.cons (.agg (.cons (.same _) (.cons .fK (.cons (.same _) (.cons .fK .nil))))) (.cons (.same _) .nil)),?_⟩;rw[QC];exact⟨.az (.cons (kW 0) (.cons (.bool _) .nil)),rfl⟩
theorem Q2(z:Int)(d:List UInt8)(t:∀c∈d,eg c)(u:d.length≤570)(x:(aq z.natAbs).length<80)(w:(aq (dv d)).length<80)(s:Bool)(n:List UInt8)(F:Fr)(H:af)(j:rd 2 F=.ptr 5 0)(p:rd 4 F=.ptr 6 0)(k:rd 6 F=.ptr 7 0)(g:H.get 5=.cells [aD,.an,aD,.an] 0)(o:H.get 6=.cells [.bool s,.str n,.str d] 0)
 (br:H.get 7=.cells [.bool (decide (z<0)),bl (aq z.natAbs),aD,.an] 0) (e:GT H):
 bx (pc 163 3) (gk [.cell 2 true 4,.tmp 3] fun y f=>GT f∧∃v,bR f (cZ.mz f.next) y v∧bz v∧v=uz z d) F H:=by
 by_cases a:d=[]
 ·have l:decide (d=[])=true:=bk a;simp only[go_sem,Le,j,p,k,g,o,br,l];refine⟨e.set ag _,_,.az (.cons (.agg (.cons (.same _) (.cons (.same _) (.cons (.same _) (.cons .fK .nil))))) (.cons (.same _) .nil)),?_⟩;unfold uz;rw[ak (.inl a),ak a];exact⟨.az (.cons (.agg (.cons (.bool _) (.cons (dr _) (.cons (.bool _) (.cons (.row 0 .nil) .nil))))) (.cons (.bool _) .nil)),rfl⟩
 ·have l:decide (d=[])=false:=aZ a;have q:=Cn d t u;rw[hH]at q;have m:=Dd z (dv d:Int) x (by rw[dB];exact w);rw[dB,hH (dv d)]at m;have i:=AA ((cx z.natAbs (dv d):Nat):Int);have r:decide (((cx z.natAbs (dv d):Nat):Int)=1)=decide (cx z.natAbs (dv d)=1):=decide_eq_decide.2 aa;rw[r]at i;unfold b5 dg at m i;simp only[go_sem,Le,X2,p,o,l];refine use q ?_;simp only[go_sem,X1,k,br];refine bL m (e.set ag _) ?_;simp only[go_sem];refine use i ?_;by_cases b:cx z.natAbs (dv d)=1
  ·rw[bk b];simp only[go_sem,X0,j,k,g];refine bZ ((e.set ag _).set ag _) ?_ ?_
   ·unfold uz;rw[ak (.inr b),aj a]
   ·unfold uz;rw[ak (.inr b)];exact .az (.cons (.agg (.cons (.bool _) (.cons (dr _) (.cons (.bool _) (.cons (dr _) .nil))))) (.cons (.bool _) .nil))
  ·rw[aZ b];simp only[go_sem,j,g];unfold uz;rw[aj (by rintro(h|h);exact a h;exact b h)];exact Ok ((e.set ag _).set ag _)
theorem G8(s:List UInt8):(∀c∈(dO s).num,eg c)∧(dO s).num.length≤s.length∧(∀c∈(dO s).den,eg c)∧(dO s).den.length≤s.length:=by
 obtain⟨r,d⟩:∃r,r=if s.take 1=[45]then s.drop 1 else s:=⟨_,rfl⟩
 have g:r.length≤s.length:=by
  rw[d];split
  ·rw[gZ];omega
  ·omega
 have j:=Nn r;have a:(e3 r).length≤s.length:=aa;have i:(gh r).length≤r.length:=by
  have:=congrArg ku (vg r);rw[aS]at this;omega
 have e:=Nn ((gh r).drop 1);rw[gZ]at e;have f:(e3 ((gh r).drop 1)).length≤s.length:=aa;have b:∀c∈([]:List UInt8),eg c:=fun c h=>by cases h
 unfold dO;simp only[←d];split
 ·exact⟨sD r,a,b,bQ _⟩
 ·split
  ·exact⟨sD r,a,b,bQ _⟩
  ·split
   ·exact⟨sD r,a,b,bQ _⟩
   ·split
    ·exact⟨sD r,a,b,bQ _⟩
    ·exact⟨sD r,a,sD _,f⟩
def um(s:List UInt8):V:=match numOf s with
 |some q=>.az [c5 q,.bool true]
 |none=>.az [c5 0,.bool false]
variable{j:List UInt8}{z:Rat}
theorem Ck(h:numOf j=some z):um j=.az [c5 z,bO]:=by unfold um;rw[h]
theorem GQ(h:numOf j=none):um j=.az [c5 0,aD]:=by unfold um;rw[h]
theorem ao6(s:List UInt8)(e:(dO s).ok=true):uz (if(dO s).neg then-(dv (dO s).num:Int)else(dv (dO s).num:Int)) (dO s).den=um s:=by
 have d:(if(dO s).neg then-(dv (dO s).num:Int)else(dv (dO s).num:Int)).natAbs=dv (dO s).num:=by
  split<;>simp
 cases a:numOf s with
 |some q=>
  have f:=vQ a;rw[Ck a];have c:=CQ q;rw[←f]at c;rw[c];simp only[nR];have g:(if decide (q.num<0)=true then-(q.num.natAbs:Int)else(q.num.natAbs:Int))=q.num:=by
   by_cases h:q.num<0
   ·rw[ak (bk h)];omega
   ·rw[aj (by simpa using h)];omega
  rw[g];unfold uz tR;by_cases b:q.den=1
  ·rw[ak b,ak (.inl rfl),ak rfl];unfold c5 b9;rw[ng b,jY]
  ·rw[aj b,nR,ak (.inr q.reduced),aj (o9 _)];unfold c5 b9;rw[jK b]
 |none=>
  rw[GQ a];unfold uz;rw[d];have:¬((dO s).den=[]∨cx (dv (dO s).num) (dv (dO s).den)=1):=fun h=>by
   unfold numOf at a;rw[ak ⟨e,h⟩]at a;cases a
  rw[aj this]
theorem Hu(s:List UInt8)(hl:s.length≤500):c4 163 [.str s] (um s):=by
 refine dm (.cons (.str _) .nil) (aT aj4 ?_);obtain⟨b,q,a,o⟩:=G8 s;have i:=ao6 s;have j:(dO s).ok≠true→um s=.az [c5 0,aD]:=fun h=>GQ (by unfold numOf;rw[aj (fun e=>h e.1)])
 simp only[go_sem,d163,X4];refine use (HV s aa) ?_;unfold mP;generalize dO s=p at*
 obtain⟨neg,n,d,r⟩:=p;simp only at b q a o i j;have k:=Cn n b aa;rw[hH]at k;have f:∀l:List UInt8,(∀c∈l,eg c)→l.length≤500→(aq (dv l)).length<80:=fun l hl t=>by
  have m:dv l<2^2000:=@Go.aF.zY (dv l) 10 l.length 2 4 2000 (ow l hl) ag aa ag;have:=(gb.nat m).len (k:=32) ag;rw[dB]at this;omega
 cases r with
 |false=>
  rw[j tA];simp only[go_sem,Lg];exact Ok e8
 |true=>
  rw[←i rfl];simp only[go_sem,Lg,X3];refine use k ?_;cases neg with
  |true=>
   have g:=arW (dv n:Int);rw[hH]at g;unfold b5 dg at g;simp only[go_sem,Lf];refine use g ?_;simp only[go_sem];refine Q2 (-(dv n:Int)) d a aa (by rw[mZ,dB];exact f n b aa) (f d a aa) true n _ _ ?_ ?_ ?_ ?_ ?_ ?_ e8
   iterate 6 simp only[go_sem]
  |false=>
   simp only[go_sem,Lf];refine Q2 (dv n:Int) d a aa (by rw[dB];exact f n b aa) (f d a aa) false n _ _ ?_ ?_ ?_ ?_ ?_ ?_ e8
   iterate 5 simp only[go_sem]
   ·simp only[go_sem];rw[aZ (aa:¬((dv n:Nat):Int)<0),dB]
theorem Sj(c:UInt8)(a:eg c):aC .u8 (((c.toNat:Nat):Int)-48)=((c.toNat-48:Nat):Int):=by
 unfold eg at a;have:c.toNat<256:=c.toNat_lt;have e:((c.toNat:Nat):Int)-48=((c.toNat-48:Nat):Int):=aa;rw[e];show((c.toNat-48:Nat):Int)%256=_;omega
theorem No(d:List UInt8)(j:∀c∈d,eg c)(hl:d.length≤18):aW 184 [.str d] (ah (dv d:Int)):=by
 refine cO (.cons (.str _) .nil) (.int _ _) (aT akh ?_);simp only[go_sem,d184,YG,YF];refine bH (fun k b n=>∃i:Nat,rd 0 b=.str d∧rd 3 b=ah ((dv (d.take i):Nat):Int)∧rd 6 b=ah (d.length:Int)∧rd 7 b=ah (i:Int)∧k=d.length-i∧i≤d.length) d.length ⟨0,?_,?_,?_,?_,rfl,bQ _⟩ ?_
 ·simp only[go_sem]
 ·simp only[go_sem];rfl
 ·simp only[go_sem]
 ·simp only[go_sem];rfl
 rintro k b n ⟨i,l,e,f,m,rfl,hi⟩;rw[YD];by_cases t:i<d.length
 ·obtain⟨c,g⟩:∃c,d[i]? =some c:=⟨d[i],cn t⟩;have q:eg c:=j c (eT g);have s:kF [.str d,ah (i:Int)]=some (.val (.int .u8 (c.toNat:Int))):=oE aa (by rw[bJ];exact g);have y:d.take (i+1)=d.take i++[c]:=by rw[List.take_add_one,g];rfl
  have v:dv (d.take (i+1))=10*dv (d.take i)+(c.toNat-48):=by rw[y,xp]
  have o:=ow (d.take i) (fun c h=>j c (uT h));have p:=ow (d.take (i+1)) (fun c h=>j c (uT h));rw[dD,m5 aa]at o p;have w:10^i≤10^18:=gl ag aa;have x:10^(i+1)≤10^18:=gl ag aa;have E:(10:Nat)^18=1000000000000000000:=ag;rw[E]at w x;have z:=Sj c q;generalize dv (d.take i)=a at*
  have B:aC .i64 (10*(a:Int))=((10*a:Nat):Int):=by rw[aH _ aa];omega
  have F:c.toNat<256:=c.toNat_lt;have A:aC .i64 ((c.toNat-48:Nat):Int)=((c.toNat-48:Nat):Int):=aH _ aa;have C:aC .i64 (((10*a:Nat):Int)+((c.toNat-48:Nat):Int))=((dv (d.take (i+1)):Nat):Int):=by rw[aH _ aa,v];omega
  have D:aC .i64 ((i:Int)+1)=((i+1:Nat):Int):=by rw[aH _ aa];rfl
  have u:((i:Int)<(d.length:Int)):=aa;simp(disch:=assumption)only[go_sem,Lu,YC,YB,l,e,f,m,dt,s,z,A,B,C,D];refine⟨d.length-(i+1),aa,i+1,?_,?_,?_,?_,rfl,aa⟩
  iterate 4 simp only[go_sem,l,f]
 ·have r:i=d.length:=aa;subst r;rw[b_ (aE _)]at e;have u:¬((d.length:Int)<(d.length:Int)):=aa;simp(disch:=assumption)only[go_sem,Lu,YE,e,f,m,df]
theorem ahB(a b:Nat)(j:a<9223372036854775808)(l:b<9223372036854775808):aW 160 [ah (a:Int),ah (b:Int)] (ah (cx a b:Int)):=by
 refine cO (.cons (.int _ _) (.cons (.int _ _) .nil)) (.int _ _) (aT aj3 ?_);simp only[go_sem,d160,XY];refine bH (fun k c h=>∃x:Nat,rd 0 c=ah (x:Int)∧rd 1 c=ah (k:Int)∧cx x k=cx a b) b ⟨a,?_,?_,rfl⟩ ?_
 iterate 2 simp only[go_sem]
 rintro k c h ⟨x,e,f,d⟩;rw[XW];by_cases g:k=0
 ·subst g;rw[Nat.gcd_zero_right]at d;have i:((0:Nat):Int)=0:=rfl;simp only[go_sem,XX,e,f,i,decide_true,gG];rw[d]
 ·have m:¬((k:Nat):Int)=0:=aa;simp(disch:=assumption)only[go_sem,XV,e,f,df,iY,mB,yq];refine⟨x%k,eU _ (ld g),k,?_,?_,?_⟩
  iterate 2 simp only[go_sem]
  ·rw[←d,qd x k,Nat.gcd_rec k x,qd]
def kL(s:List UInt8):Option Rat:=if s.length≤20∧(dO s).num.length≤9∧(dO s).den.length≤9 then numOf s else none
def n5:Option Rat→List V
 |some q=>[.int .i64 q.num,.int .i64 (q.den:Int)]
 |none=>[.int .i64 0,.int .i64 0]
def ya(o:Option Rat):V:=.az [.agg (n5 o),.bool o.isSome]
theorem zk(o:Option Rat):bz (.agg (n5 o)):=by
 cases o with
 |none=>exact .agg (.cons (.int _ _) (.cons (.int _ _) .nil))
 |some q=>exact .agg (.cons (.int _ _) (.cons (.int _ _) .nil))
theorem agY(o:Option Rat):bz (ya o):=.az (.cons (zk o) (.cons (.bool _) .nil))
theorem RD(s:List UInt8)(c:(dO s).ok=true)(h:(dO s).den=[]∨cx (dv (dO s).num) (dv (dO s).den)=1):∃q,numOf s=some q∧q.num=(if(dO s).neg then-(dv (dO s).num:Int)else(dv (dO s).num:Int))∧q.den=if(dO s).den=[]then 1 else dv (dO s).den:=by
 obtain⟨q,b⟩:∃q,numOf s=some q:=⟨_,by unfold numOf;rw[ak ⟨c,h⟩]⟩;refine⟨q,b,?_⟩;have d:=vQ b;rw[d,CQ q];simp only[nR];constructor
 ·by_cases h:q.num<0
  ·rw[ak (bk h)];omega
  ·rw[aj (by simpa using h)];omega
 ·unfold tR;by_cases a:q.den=1
  ·rw[ak a,ak rfl,a]
  ·rw[aj a,aj (o9 _),nR]
theorem RE(s:List UInt8)(h:¬((dO s).ok=true∧((dO s).den=[]∨cx (dv (dO s).num) (dv (dO s).den)=1))):numOf s=none:=by
 unfold numOf;rw[aj h]
theorem Bn(d:List UInt8)(a:∀c∈d,eg c)(hl:d.length≤9):dv d<1000000000:=eG (ow d a) (gl ag hl)
theorem HR(s:List UInt8)(E:s.length≤1000000000):aW 120 [.str s] (ya (kL s)):=by
 refine cO (.cons (.str _) .nil) (agY _) (aT ajM ?_);by_cases y:s.length≤20
 ·obtain⟨u,D,m,B⟩:=G8 s;have t:=RD s;have w:=RE s;have i:kL s=if(dO s).num.length≤9∧(dO s).den.length≤9 then numOf s else none:=by
   unfold kL;by_cases h:(dO s).num.length≤9∧(dO s).den.length≤9
   ·rw[ak ⟨y,h⟩,ak h]
   ·rw[aj (fun e=>h e.2),aj h]
  have k:decide ((20:Int)<((s.length:Nat):Int))=false:=aZ aa;simp only[go_sem,d120,K2,VT,k];refine use (HV s E) ?_;rw[i];unfold mP;generalize numOf s=o at*
  generalize dO s=p at*
  obtain⟨neg,n,d,F⟩:=p;simp only at u D m B t w i⊢;cases F with
  |false=>
   have:o=none:=w (fun h=>tA h.1);rw[this,ite_self];simp only[go_sem,A9];rfl
  |true=>
   by_cases v:n.length≤9
   ·have c:decide ((9:Int)<((n.length:Nat):Int))=false:=aZ aa;by_cases r:d.length≤9
    ·have l:decide ((9:Int)<((d.length:Nat):Int))=false:=aZ aa;rw[ak ⟨v,r⟩];have H:=Bn n u v;have G:=Bn d m r;have A:=No n u aa;have dd:=No d m aa;have C:=ahB (dv n) (dv d) aa aa;simp only[go_sem,A9,VS,c,l];refine use A ?_;have z:aC .i64 (-(dv n:Int))= -(dv n:Int):=aH _ aa;by_cases a:d=[]
     ·have f:decide (d=[])=true:=bk a;obtain⟨q,rfl,j,b⟩:=t rfl (.inl a);rw[ak a]at b;unfold ya n5;simp only[q9];rw[j,b];cases neg with
      |true=>
       simp only[go_sem,Ep,A8,A7,f,z]
       all_goals first|trivial|rfl
      |false=>
       simp only[go_sem,Ep,A8,A7,f,ie]
       all_goals first|trivial|rfl
     ·have f:decide (d=[])=false:=aZ a;simp only[go_sem,Ep,f];refine use dd ?_;simp only[go_sem];refine use C ?_;by_cases x:cx (dv n) (dv d)=1
      ·obtain⟨q,rfl,j,b⟩:=t rfl (.inr x);rw[aj a]at b;unfold ya n5;simp only[q9];rw[j,b];have g:decide (((cx (dv n) (dv d):Nat):Int)=1)=true:=bk aa;cases neg with
       |true=>
        simp only[go_sem,A8,A7,g,z]
        all_goals first|trivial|rfl
       |false=>
        simp only[go_sem,A8,A7,g,ie]
        all_goals first|trivial|rfl
      ·have:o=none:=w (fun h=>h.2.elim a x);rw[this];have g:decide (((cx (dv n) (dv d):Nat):Int)=1)=false:=aZ aa;simp only[go_sem,g];rfl
    ·have l:decide ((9:Int)<((d.length:Nat):Int))=true:=bk aa;rw[aj (fun h=>r h.2)];simp only[go_sem,A9,c,l];rfl
   ·have c:decide ((9:Int)<((n.length:Nat):Int))=true:=bk aa;rw[aj (fun h=>v h.1)];simp only[go_sem,A9,c];rfl
 ·have k:decide ((20:Int)<((s.length:Nat):Int))=true:=bk aa;have i:kL s=none:=by unfold kL;rw[aj (fun e=>y e.1)]
  rw[i];simp only[go_sem,d120,K2,k];rfl
def s_(s t:List UInt8):V:=match kL s,kL t with
 |some p,some q=>.az [.agg (n5 (some p)),.agg (n5 (some q)),.bool true]
 |_,_=>.az [.agg (n5 none),.agg (n5 none),.bool false]
theorem agX(s t:List UInt8):bz (s_ s t):=by
 unfold s_;split
 ·exact .az (.cons (zk _) (.cons (zk _) (.cons (.bool _) .nil)))
 ·exact .az (.cons (zk _) (.cons (zk _) (.cons (.bool _) .nil)))
theorem apU(s t:List UInt8)(c:s.length≤1000000000)(d:t.length≤1000000000):aW 104 [.str s,.str t] (s_ s t):=by
 refine cO (.cons (.str _) (.cons (.str _) .nil)) (agX _ _) (aT ajC ?_);have a:=HR s c;have b:=HR t d;unfold s_;generalize kL s=o at*
 generalize kL t=u at*
 unfold ya at a b;simp only[go_sem,d104,Vh];refine use a ?_;cases o with
 |none=>
  simp only[go_sem,KW,q9,n5]
 |some p=>
  simp only[go_sem,KW,Vg,q9,n5];refine use b ?_;cases u with
  |none=>
   simp only[go_sem,KV,q9,n5]
  |some q=>
   simp only[go_sem,KV,Vf,q9,n5]
   all_goals first|trivial|rfl
section
open Go.au Tryz
set_option maxRecDepth 100000
attribute [local irreducible] rd kc ex bE bF re rg mv bS pick alloc box bi bs be bp st fa cz cN dI c8 dN eB eA ms dx ek ej dY mx mn dX ap ee cJ dZ d_ cm ec ext er neg Go.au.not en ei ep eo ey eu ef ew dR dP u8
def X8:=ai 170 f170 0
def Ll:=ai 170 f170 1
def Eu:=ai 170 f170 2
def Ev:=ai 170 f170 3
def Ew:=ai 170 f170 4
def X9:=ai 170 f170 5
def X_:=ai 170 f170 6
def d170:=aU 170 f170
def aj8:=aR f170 170
def ZK:=ai 233 f233 0
def d233:=aU 233 f233
def akw:=aR f233 233
def V3:=ai 12 f12 0
def V4:=ai 12 f12 1
def K3:=ai 12 f12 2
def V5:=ai 12 f12 3
def V6:=ai 12 f12 4
def V7:=ai 12 f12 5
def V8:=ai 12 f12 6
def d12:=aU 12 f12
def xG:=aR f12 12
def V9:=ai 13 f13 0
def V_:=ai 13 f13 1
def Wa:=ai 13 f13 2
def Wb:=ai 13 f13 3
def Wc:=ai 13 f13 4
def Wd:=ai 13 f13 5
def d13:=aU 13 f13
def zu:=aR f13 13
def W8:=ai 14 f14 0
def W9:=ai 14 f14 1
def K4:=ai 14 f14 2
def W_:=ai 14 f14 3
def Xa:=ai 14 f14 4
def Xb:=ai 14 f14 5
def Xc:=ai 14 f14 6
def d14:=aU 14 f14
def ud:=aR f14 14
def Yj:=ai 17 f17 0
def d17:=aU 17 f17
def B0:=aR f17 17
def Ze:=ai 20 f20 0
def EC:=ai 20 f20 1
def Bb:=ai 20 f20 2
def Zf:=ai 20 f20 3
def Zg:=ai 20 f20 4
def Zh:=ai 20 f20 5
def Zi:=ai 20 f20 6
def d20:=aU 20 f20
def akm:=aR f20 20
def aek:=ai 54 f54 0
def ael:=ai 54 f54 1
def MY:=ai 54 f54 2
def aem:=ai 54 f54 3
def aen:=ai 54 f54 4
def aeo:=ai 54 f54 5
def aep:=ai 54 f54 6
def d54:=aU 54 f54
def O7:=aR f54 54
def aeq:=ai 55 f55 0
def d55:=aU 55 f55
def alu:=aR f55 55
def aeE:=ai 61 f61 0
def aeF:=ai 61 f61 1
def M1:=ai 61 f61 2
def aeG:=ai 61 f61 3
def aeH:=ai 61 f61 4
def aeI:=ai 61 f61 5
def aeJ:=ai 61 f61 6
def d61:=aU 61 f61
def alx:=aR f61 61
def afE:=ai 99 f99 0
def afF:=ai 99 f99 1
def afG:=ai 99 f99 2
def afH:=ai 99 f99 3
def d99:=aU 99 f99
def alN:=aR f99 99
def U2:=ai 101 f101 0
def U3:=ai 101 f101 1
def KS:=ai 101 f101 2
def U_:=ai 101 f101 3
def U':=ai 101 f101 4
def Va:=ai 101 f101 5
def KT:=ai 101 f101 6
def Vb:=ai 101 f101 7
def Vc:=ai 101 f101 8
def Vd:=ai 101 f101 9
def U4:=ai 101 f101 10
def U5:=ai 101 f101 11
def U6:=ai 101 f101 12
def U7:=ai 101 f101 13
def U8:=ai 101 f101 14
def U9:=ai 101 f101 15
def d101:=aU 101 f101
def ajz:=aR f101 101
def Ve:=ai 102 f102 0
def d102:=aU 102 f102
def ajA:=aR f102 102
def KU:=ai 103 f103 0
def d103:=aU 103 f103
def ajB:=aR f103 103
def Xn:=ai 154 f154 0
def Xo:=ai 154 f154 1
def K5:=ai 154 f154 2
def K6:=ai 154 f154 3
def Xp:=ai 154 f154 4
def Xq:=ai 154 f154 5
def Xr:=ai 154 f154 6
def Xs:=ai 154 f154 7
def d154:=aU 154 f154
def ajX:=aR f154 154
def K7:=ai 155 f155 0
def K8:=ai 155 f155 1
def Es:=ai 155 f155 2
def Et:=ai 155 f155 3
def zc:=ai 155 f155 4
def A_:=ai 155 f155 5
def w_:=ai 155 f155 6
def xb:=ai 155 f155 7
def K9:=ai 155 f155 8
def K_:=ai 155 f155 9
def Xt:=ai 155 f155 10
def Xu:=ai 155 f155 11
def Xv:=ai 155 f155 12
def d155:=aU 155 f155
def ajY:=aR f155 155
def Xw:=ai 156 f156 0
def Xx:=ai 156 f156 1
def La:=ai 156 f156 2
def XD:=ai 156 f156 3
def XE:=ai 156 f156 4
def XF:=ai 156 f156 5
def Lb:=ai 156 f156 6
def XG:=ai 156 f156 7
def XH:=ai 156 f156 8
def XI:=ai 156 f156 9
def Xy:=ai 156 f156 10
def Xz:=ai 156 f156 11
def XA:=ai 156 f156 12
def XB:=ai 156 f156 13
def XC:=ai 156 f156 14
def d156:=aU 156 f156
def ajZ:=aR f156 156
def XJ:=ai 157 f157 0
def d157:=aU 157 f157
def aj0:=aR f157 157
def XK:=ai 158 f158 0
def XL:=ai 158 f158 1
def Lc:=ai 158 f158 2
def XM:=ai 158 f158 3
def XN:=ai 158 f158 4
def XO:=ai 158 f158 5
def XP:=ai 158 f158 6
def d158:=aU 158 f158
def aj1:=aR f158 158
def XQ:=ai 159 f159 0
def XR:=ai 159 f159 1
def Ld:=ai 159 f159 2
def XS:=ai 159 f159 3
def XT:=ai 159 f159 4
def XU:=ai 159 f159 5
def d159:=aU 159 f159
def aj2:=aR f159 159
def Y6:=ai 202 f202 0
def Y7:=ai 202 f202 1
def Ly:=ai 202 f202 2
def Y8:=ai 202 f202 3
def Y9:=ai 202 f202 4
def Y_:=ai 202 f202 5
def Za:=ai 202 f202 6
def Zb:=ai 202 f202 7
def Zc:=ai 202 f202 8
def Zd:=ai 202 f202 9
def d202:=aU 202 f202
def akn:=aR f202 202
def ZB:=ai 227 f227 0
def ZC:=ai 227 f227 1
def d227:=aU 227 f227
def akt:=aR f227 227
def ZD:=ai 228 f228 0
def ZE:=ai 228 f228 1
def d228:=aU 228 f228
def aku:=aR f228 228
def aaO:=ai 274 f274 0
def d274:=aU 274 f274
def akN:=aR f274 274
def aaP:=ai 275 f275 0
def d275:=aU 275 f275
def akO:=aR f275 275
def acA:=ai 334 f334 12
def acB:=ai 334 f334 13
def acC:=ai 334 f334 14
def acD:=ai 334 f334 15
def d334:=aU 334 f334
def ak7:=aR f334 334
end
end Go.Proofs.YtddhncjmaahodaaGreatDoor
namespace Go.aF
def rv(s:List UInt8):Rat:=(numOf s).getD 0
theorem l7(q:Rat):rv (bh q)=q:=by unfold rv;rw[pF];rfl
variable{j:List UInt8}{z:Rat}
theorem s9(h:numOf j=some z):rv j=z:=by unfold rv;rw[h];rfl
theorem CJ(h:numOf j=none):rv j=0:=by unfold rv;rw[h];rfl
theorem P9:numOf [48]=some 0:=pF 0
theorem Ik{q:Rat}(h:q.num<0):bh q=45::bh (-q):=by
 unfold bh;have a:(-q).num= -q.num:=rfl;have b:(-q).den=q.den:=rfl;rw[ak h,a,b,aj (aa:¬-q.num<0),mZ];rfl
theorem arl(h:0<z.num):bh (-z)=45::bh z:=by
 have a:(-z).num= -z.num:=rfl;have:=Ik (q:= -z) (by rw[a];omega);rw[this,Rat.neg_neg]
theorem Se:(∃t,bh z=45::t)↔z.num<0:=by
 constructor
 ·rintro⟨t,b⟩;refine oa fun g=>?_
  have e:bh z=dec z.num.natAbs++(if z.den=1 then []else 47::dec z.den):=by unfold bh;rw[aj g];rfl
  rw[e]at b;cases a:dec z.num.natAbs with
  |nil=>exact o9 _ a
  |cons c l=>
   rw[a]at b;have d:eg c:=o8 z.num.natAbs c (by rw[a];exact .head _);injection b with f _
   rw[f]at d;exact absurd d ag
 ·intro h;exact⟨_,Ik h⟩
theorem arf:bh z=[48]↔z=0:=⟨fun h=>by have:=l7 z;rw[h]at this;rw[←this,s9 P9],fun h=>by rw[h];rfl⟩
end Go.aF
namespace Go.Proofs.YtddhncjmaahodaaGreatDoor
open Go.au Go.aF
variable{j:List UInt8}
theorem x7{L:Nat}(h:j.length≤L):a_ (4*L+1) (rv j):=by
 cases a:numOf j with
 |none=>
  rw[CJ a];refine⟨?_,?_⟩
  ·show 0<2^(4*L+1);exact Nat.two_pow_pos _
  ·show 1<2^(4*L+1);exact Nat.one_lt_two_pow aa
 |some q=>
  rw[s9 a];have i:=vQ a;have d:∀ {n l:Nat},(dec n).length≤l→l≤L→n<2^(4*L+1):=fun{n l} e f=>by
   have b:=ow (dec n) (o8 n);rw[nR]at b;refine eG b ?_;refine cy (gl ag (cy e f)) ?_;have:(10:Nat)^L≤(2^4)^L:=wN ag L;rw[←Nat.pow_mul]at this;exact cy this (gl ag aa)
  have g:(dec q.num.natAbs).length+(if q.den=1 then []else 47::dec q.den).length≤j.length:=by
   rw[i];unfold bh;rw[aS,aS];omega
  refine⟨d (l:=j.length) aa h,?_⟩;by_cases c:q.den=1
  ·rw[c];exact Nat.one_lt_two_pow aa
  ·rw[aj c,cL]at g;exact d (l:=j.length) aa h
theorem St(s:List UInt8)(hl:s.length≤500):c4 106 [.str s] (c5 (rv s)):=by
 refine dm (.cons (.str _) .nil) (aT ajD ?_);have h:=Hu s hl;have b:um s=.az [c5 (rv s),.bool (numOf s).isSome]:=by
  cases a:numOf s with
  |none=>rw[GQ a,CJ a];rfl
  |some q=>rw[Ck a,s9 a];rfl
 rw[b]at h;unfold c5 b9 at h;simp only[go_sem,d106,Vj];refine bL h e8 ?_;simp only[go_sem,Vi];exact bZ e8 rfl (kW _)
variable{z:Rat}
theorem HQ(h:kL j=some z):numOf j=some z∧z.num.natAbs<1000000000∧z.den<1000000000:=by
 unfold kL at h;split at h
 ·rename_i e;refine⟨h,?_⟩;have g:=vQ h;rw[g,CQ]at e;obtain⟨_,d,a⟩:=e;simp only at d a;have b:=Bn _ (o8 z.num.natAbs) d;rw[nR]at b;refine⟨b,?_⟩;unfold tR at a;by_cases f:z.den=1
  ·rw[f];decide
  ·rw[aj f]at a;have c:=Bn _ (o8 z.den) a;rw[nR]at c;exact c
 ·cases h
theorem yD(s:List UInt8)(hl:s.length≤500):c4 72 [.str s] (.bool (numOf s).isSome):=by
 refine dm (.cons (.str _) .nil) (aT alC ?_);have a:=HR s aa;unfold ya at a;simp only[go_sem,d72,ae9];refine use a ?_;cases x:kL s with
 |some q=>
  simp only[go_sem,q9,n5];rw[(HQ x).1];exact bZ e8 rfl (.bool _)
 |none=>
  simp only[go_sem,ae8,q9,n5];refine use (HV s aa) ?_;obtain⟨k,w,g,v⟩:=G8 s;have j:=RD s;have m:=RE s;unfold mP;generalize numOf s=o at*
  generalize dO s=p at*
  obtain⟨neg,n,d,A⟩:=p;simp only at k w g v j m;cases A with
  |false=>
   have:o=none:=m (fun h=>tA h.1);rw[this];simp only[go_sem,Fi];exact bZ e8 rfl (.bool _)
  |true=>
   by_cases b:d=[]
   ·have f:decide (d=[])=true:=bk b;obtain⟨q,e,_⟩:=j rfl (.inl b);rw[e];simp only[go_sem,Fi,f];exact bZ e8 rfl (.bool _)
   ·have f:decide (d=[])=false:=aZ b;have y:=Cn n k aa;have z:=Cn d g aa;have t:∀l:List UInt8,(∀c∈l,eg c)→l.length≤500→(aq (dv l)).length<80:=fun l hl B=>by
     have u:dv l<2^2000:=@Go.aF.zY (dv l) 10 l.length 2 4 2000 (ow l hl) ag aa ag;have:=(gb.nat u).len (k:=32) ag;rw[dB]at this;omega
    have i:=Dd (dv n:Int) (dv d:Int) (by rw[dB];exact t n k aa) (by rw[dB];exact t d g aa);rw[dB,dB]at i;have a:=AA ((cx (dv n) (dv d):Nat):Int);simp only[go_sem,Fi,ae7,f];refine use y ?_;simp only[go_sem,true_and];refine use z ?_;unfold b5 dg at i a⊢;simp only[go_sem];refine bL i e8 ?_;simp only[go_sem];refine use a ?_;simp only[go_sem];by_cases r:cx (dv n) (dv d)=1
    ·obtain⟨q,e,_⟩:=j rfl (.inr r);rw[e,bk (aa:((cx (dv n) (dv d):Nat):Int)=1)];exact bZ e8 rfl (.bool _)
    ·have:o=none:=m (fun h=>h.2.elim b r);rw[this,aZ (aa:¬((cx (dv n) (dv d):Nat):Int)=1)];exact bZ e8 rfl (.bool _)
theorem ank(s:List UInt8)(hl:s.length≤500):c4 100 [.str s] (.str (bh (-(rv s)))):=by
 refine dm (.cons (.str _) .nil) (aT ajy ?_);have r:=yD s hl;by_cases d:s=[48]
 ·have h:decide (s=[48])=true:=bk d;simp only[go_sem,d100,KR,h];rw[d,s9 P9];exact bZ e8 rfl (.str _)
 ·have h:decide (s=[48])=false:=aZ d;simp only[go_sem,d100,KR,h];refine bL r e8 ?_;cases g:numOf s with
  |none=>
   simp only[go_sem,q9];rw[CJ g];exact bZ e8 rfl (.str _)
  |some q=>
   have a:=vQ g;rw[s9 g];have v:q.num≠0:=fun e=>d (by rw[a,arf];exact Rat.num_eq_zero.1 e)
   obtain⟨c,t,b⟩:∃c t,s=c::t:=by
    cases b:s with
    |nil=>
     rw[b]at a;have:=congrArg ku a;unfold bh at this;rw[aS,aS]at this;have:=tQ q.num.natAbs;simp at*;omega
    |cons c t=>exact⟨c,t,rfl⟩
   have j:kF [.str s,ah 0]=some (.val (.int .u8 (c.toNat:Int))):=oE ag (by rw[b];rfl);by_cases f:c=45
   ·have n:q.num<0:=Se.1 ⟨t,by rw[←a,b,f]⟩;have i:decide (((c.toNat:Nat):Int)=45)=true:=bk (by rw[f];rfl);have p:slice3 k4 true false false [.str s,ah 1]=some (.val (.str (bh (-q)))):=by
     have:=Ik n;rw[←a]at this;rw[we ⟨ag,by rw[b];simp;omega⟩,this];rfl
    simp only[go_sem,q9,j,i,p];exact bZ e8 rfl (.str _)
   ·have o:0<q.num:=by
     refine oa fun g=>?_
     obtain⟨u,k⟩:=Se.2 (aa:q.num<0);rw[←a,b]at k;injection k with l _
     exact f l
    have i:decide (((c.toNat:Nat):Int)=45)=false:=aZ fun e=>f (wT.1 (by show c.toNat=45;omega))
    have m:pQ (qp .add) [.str [45],.str s]=some (.val (.str (45::s))):=x8 (s:=[45]) (t:=s) (by simp;omega);simp only[go_sem,U1,q9,j,i,m];refine bZ e8 ?_ (.str _);rw[arl o,←a]
theorem KH(x:Int):aW 233 [ah x] aD:=by
 refine cO (.cons (.int _ _) .nil) (.bool _) (aT akw ?_);have a:decide (x=x)=true:=bk rfl;simp only[go_sem,d233,ZK];trivial
theorem UD(x y:Int):aW 170 [ah x,ah y] (ah (fe x y)):=by
 refine cO (.cons (.int _ _) (.cons (.int _ _) .nil)) (.int _ _) (aT aj8 ?_);simp only[go_sem,d170,X_];refine use (KH x) ?_;simp only[go_sem,X9];refine use (KH y) ?_;unfold fe;by_cases a:x<y
 ·rw[ak a];simp(disch:=assumption)only[go_sem,Ew,Ev,Eu,dt]
 ·rw[aj a];by_cases b:y<x
  ·rw[ak b];simp(disch:=assumption)only[go_sem,Ew,Ev,Eu,Ll,df,dt]
  ·rw[aj b];simp(disch:=assumption)only[go_sem,Ew,Ev,Eu,Ll,X8,df]
theorem UE(x y:Int):aW 109 [ah x,ah y] (ah (fe x y)):=by
 refine cO (.cons (.int _ _) (.cons (.int _ _) .nil)) (.int _ _) (aT ajF ?_);simp only[go_sem,d109,Vm];refine use (UD x y) ?_;simp only[go_sem]
theorem Cf{a b:Int}(c:a.natAbs<1000000000)(d:b.natAbs<1000000000):(a*b).natAbs<1000000000000000000:=by
 rw[oS];have:=j_ (Nat.le_of_lt_succ c:a.natAbs≤999999999) (Nat.le_of_lt_succ d:b.natAbs≤999999999);omega
variable{h:Nat}
theorem am5{a:Nat}(b:a≠0)(c:h≠0):0<(a:Int)*(h:Int):=Int.mul_pos aa aa
theorem apS{t:List UInt8}{q:Rat}(a:kL j=some z)(b:kL t=some q):s_ j t=.az [.agg [ah z.num,ah (z.den:Int)],.agg [ah q.num,ah (q.den:Int)],bO]:=by unfold s_;rw[a,b];rfl
theorem Rz{t:List UInt8}(h:kL j=none∨kL t=none):s_ j t=.az [.agg [ah 0,ah 0],.agg [ah 0,ah 0],aD]:=by
 unfold s_;rcases h with h|h
 ·rw[h];rfl
 ·rw[h];split
  ·rename_i a;cases a
  ·rfl
theorem w9(s t:List UInt8)(r:s.length≤500)(u:t.length≤500){a b:Nat}(l:a_ a (rv s))(m:a_ b (rv t))(C:a+b≤1900):c4 57 [.str s,.str t] (ah (fL (rv s-rv t))):=by
 refine dm (.cons (.str _) (.cons (.str _) .nil)) (aT alv ?_);have c:=apU s t aa aa;simp only[go_sem,d57,aes];have x:s_ s t=.az [.agg [ah 0,ah 0],.agg [ah 0,ah 0],aD]∨∃p q,kL s=some p∧kL t=some q:=by
  cases j:kL s with
  |none=>exact .inl (Rz (.inl j))
  |some p=>
   cases k:kL t with
   |none=>exact .inl (Rz (.inr k))
   |some q=>exact .inr ⟨p,q,rfl,rfl⟩
 rcases x with n|⟨p,q,d,e⟩
 ·rw[n]at c;refine use c ?_;have y:=St s r;have z:=St t u;have o:=aoD (rv s) (rv t) l m aa;simp only[go_sem,aer];refine bL y e8 ?_;simp only[go_sem];refine bL z e8 ?_;simp only[go_sem];refine use o ?_;simp only[go_sem];exact bZ e8 rfl (.int _ _)
 ·obtain⟨v,f,g⟩:=HQ d;obtain⟨w,h,i⟩:=HQ e;rw[apS d e]at c;rw[s9 v,s9 w];have D:=Cf (a:=p.num) (b:=(q.den:Int)) f (by rw[dB];exact i);have E:=Cf (a:=q.num) (b:=(p.den:Int)) h (by rw[dB];exact g);have F:=Cf (a:=(p.den:Int)) (b:=(q.den:Int)) (by rw[dB];exact g) (by rw[dB];exact i);have G:=Cf (a:=p.num) (b:=q.num) f h;have H:=am5 p.den_nz q.den_nz;have A:aC .i64 (p.num*(q.den:Int))=p.num*(q.den:Int):=aH _ aa;have B:aC .i64 (q.num*(p.den:Int))=q.num*(p.den:Int):=aH _ aa;have I:aC .i64 ((p.den:Int)*(q.den:Int))=(p.den:Int)*(q.den:Int):=aH _ aa;have J:aC .i64 (p.num*q.num)=p.num*q.num:=aH _ aa;have K:aC .i64 (p.num*(q.den:Int)+q.num*(p.den:Int))=p.num*(q.den:Int)+q.num*(p.den:Int):=aH _ aa;have L:aC .i64 (p.num*(q.den:Int)-q.num*(p.den:Int))=p.num*(q.den:Int)-q.num*(p.den:Int):=aH _ aa;refine use c ?_;simp only[go_sem,A,B];rw[Ry];refine use (UE _ _) ?_;simp only[go_sem];exact bZ e8 rfl (.int _ _)
def vl(s:List UInt8):V:=if∀c∈s,eg c then .az [ct (dv s:Int),.bool (!decide (s=[]))]else .az [ct 0,aD]
theorem agR(s:List UInt8)(hs:s.length≤1000000)(a:Nat)(U:a≤s.length)(F:Fr)(H:af)(R:X→Fr→af→Prop)(K:rd 0 F=.str s)(L:rd 2 F=.ptr 5 0)(M:rd 5 F=ah (a:Int))(N:rd 6 F=.int .u32 0)(O:rd 7 F=.int .u32 1)(P:rd 8 F=ah 0)(B:H.get 5=.cells [aD,.an] 0)
 (J:∀(b:Fr) (j:Nat),(∀t,t<5→rd t b=rd t F)→rd 5 b=ah ((a+j:Nat):Int)→rd 6 b=.int .u32 ((dv ((s.drop a).take j):Nat):Int)→rd 7 b=.int .u32 ((10^j:Nat):Int)→j≤9→a+j≤s.length→(j=9∨a+j=s.length)→(∀c∈(s.drop a).take j,eg c)→R (.exit 2) b H)
 (I:∀b:Fr,(¬∀c∈s,eg c)→rd 2 b=.ptr 5 0→rd 3 b=aD→R .ret b (H.set 5 (.cells [aD,.an] 0))):bx (.loop (pc 95 2)) R F H:=by
 refine bH (fun k d A=>∃j:Nat,(∀t,t<5→rd t d=rd t F)∧rd 5 d=ah ((a+j:Nat):Int)∧rd 6 d=.int .u32 ((dv ((s.drop a).take j):Nat):Int)∧rd 7 d=.int .u32 ((10^j:Nat):Int)∧rd 8 d=ah (j:Int)∧k=9-j∧j≤9∧a+j≤s.length∧(∀c∈(s.drop a).take j,eg c)∧A=H) 9 ⟨0,fun _ _=>rfl,M,N,O,P,rfl,bQ _,U,fun c h=>(by rw[q6]at h;cases h),rfl⟩ ?_;rintro k d A ⟨j,o,f,u,v,l,rfl,E,D,w,rfl⟩;have p:rd 0 d=.str s:=by rw[o 0 ag];exact K
 have q:rd 2 d=.ptr 5 0:=by rw[o 2 ag];exact L
 rw[afp];by_cases h9:j<9
 ·have g:decide ((j:Int)<9)=true:=bk aa;by_cases W:a+j<s.length
  ·have m:decide (((a+j:Nat):Int)<((s.length:Nat):Int))=true:=bk aa;obtain⟨c,y⟩:∃c,s[a+j]? =some c:=⟨s[a+j],cn W⟩;have z:kF [.str s,ah ((a+j:Nat):Int)]=some (.val (.int .u8 (c.toNat:Int))):=oE aa (by rw[bJ];exact y);have ar:c.toNat<256:=c.toNat_lt;by_cases n:eg c
   ·have T:48≤c.toNat∧c.toNat≤57:=n;have i:decide (((c.toNat:Nat):Int)<48)=false:=aZ aa;have r:decide ((57:Int)<((c.toNat:Nat):Int))=false:=aZ aa;have e:(s.drop a).take (j+1)=(s.drop a).take j++[c]:=by
     rw[List.take_add_one,q5,y];rfl
    have C:∀x∈(s.drop a).take (j+1),eg x:=by
     rw[e];intro x Z;rcases gI.1 Z with h|h
     ·exact w x h
     ·rw[dj.1 h];exact n
    have a0:dv ((s.drop a).take (j+1))=10*dv ((s.drop a).take j)+(c.toNat-48):=by rw[e,xp]
    have Q:=ow _ C;have V:((s.drop a).take (j+1)).length≤9:=by rw[dD];omega
    have ap:dv ((s.drop a).take (j+1))<1000000000:=eG Q (gl ag V);have hp:10^(j+1)≤1000000000:=cy (gl ag (aa:j+1≤9)) ag;have a2:10^(j+1)=10^j*10:=cQ ..;have Y:=Sj c n;have S:aC .u32 ((c.toNat-48:Nat):Int)=((c.toNat-48:Nat):Int):=gC _ aa;have w1:aC .u32 (((dv ((s.drop a).take j):Nat):Int)*10)=((10*dv ((s.drop a).take j):Nat):Int):=by rw[gC _ aa];omega
    have w2:aC .u32 (((10*dv ((s.drop a).take j):Nat):Int)+((c.toNat-48:Nat):Int))=((dv ((s.drop a).take (j+1)):Nat):Int):=by rw[gC _ aa];omega
    have w3:aC .u32 (((10^j:Nat):Int)*10)=((10^(j+1):Nat):Int):=by rw[gC _ aa];omega
    have ae:aC .i64 (((a+j:Nat):Int)+1)=((a+(j+1):Nat):Int):=by rw[aH _ aa];omega
    have al:aC .i64 ((j:Int)+1)=((j+1:Nat):Int):=by rw[aH _ aa];rfl
    simp only[go_sem,Fo,afo,p,f,u,v,l,g,m,z,i,r,Y,S,w1,w2,w3,ae,al];refine⟨9-(j+1),aa,j+1,?_,?_,?_,?_,?_,rfl,aa,aa,C,rfl⟩
    ·intro t e;simp(disch:=omega)only[go_sem,aj];exact o t e
    all_goals simp only[go_sem]
   ·have G:¬∀c∈s,eg c:=fun h=>n (h c (eT y))
    have T:¬(48≤c.toNat∧c.toNat≤57):=n;by_cases aw:c.toNat<48
    ·have i:decide (((c.toNat:Nat):Int)<48)=true:=bk aa;simp only[go_sem,Fo,p,q,f,l,g,m,z,i,B];refine I _ G ?_ ?_
     all_goals simp only[go_sem,q]
    ·have i:decide (((c.toNat:Nat):Int)<48)=false:=aZ aa;have r:decide ((57:Int)<((c.toNat:Nat):Int))=true:=bk aa;simp only[go_sem,Fo,p,q,f,l,g,m,z,i,r,B];refine I _ G ?_ ?_
     all_goals simp only[go_sem,q]
  ·have m:decide (((a+j:Nat):Int)<((s.length:Nat):Int))=false:=aZ aa;simp only[go_sem,p,f,l,g,m];refine J _ j ?_ ?_ ?_ ?_ E D (.inr aa) w
   ·intro t e;simp(disch:=omega)only[go_sem,aj];exact o t e
   all_goals simp only[go_sem,f,u,v]
 ·have g:decide ((j:Int)<9)=false:=aZ aa;simp only[go_sem,l,g];refine J _ j ?_ ?_ ?_ ?_ E D (.inl aa) w
  ·intro t e;simp(disch:=omega)only[go_sem,aj];exact o t e
  all_goals simp only[go_sem,f,u,v]
theorem iV:aN 0=[]:=oT (Nat.eq_zero_of_not_pos fun h=>(sE 0).1 h rfl)
theorem OR:V.agg [aD,.row 0 []]=ct 0:=by
 unfold ct dL;rw[show(0:Int).natAbs=0 from rfl,iV];rfl
theorem amI(s:Bool):aW 86 [.bool s,.an] (ct 0):=by
 refine fE (.cons (.bool _) (.cons .an .nil)) (aT O9 ?_);have hl:cT V.an=some (.val (ah 0)):=rfl;have b:decide ((0:Int)<0)=false:=rfl;have a:∃v,bR (((af.zero 5).push (.cells [aD,.an] 0)).set 5 (.cells [aD,.an] 0)) (af.zero (((af.zero 5).push (.cells [aD,.an] 0)).set 5 (.cells [aD,.an] 0)).next) (.agg [aD,.an]) v∧bz v∧v=ct 0:=⟨_,.agg (.cons (.same _) (.cons .fK .nil)),.agg (.cons (.bool _) (.cons (.row 0 .nil) .nil)),OR⟩
 cases s
 ·simp only[go_sem,d86,Fj];exact a
 ·simp only[go_sem,d86,Fj,hl,b];exact a
def Ds(v:V)(n:Nat):Prop:=v=mag (aN n)∨v=.an∧n=0
variable{a:Nat}
theorem Ds.di{v:V}{H H2:af}(h:Ds v a):bR H H2 v (mag (aN a)):=by
 rcases h with h|⟨h,b⟩
 ·rw[h];exact .same _
 ·rw[h,b,iV];exact .fK
theorem val_one(m:Nat):val [m]=m:=by show m+4294967296*0=m;omega
theorem Oj(s:List UInt8)(hs:s.length≤1000000):aW 95 [.str s] (vl s):=by
 refine fE (.cons (.str _) .nil) (aT alL ?_);have U:bz (vl s):=by
  unfold vl;split
  ·exact .az (.cons (ju _) (.cons (.bool _) .nil))
  ·exact .az (.cons (ju _) (.cons (.bool _) .nil))
 simp only[go_sem,d95,afw,afv];refine bH (fun k b e=>∃(i:Nat) (v:V),rd 0 b=.str s∧rd 2 b=.ptr 5 0∧rd 3 b=aD∧rd 4 b=v∧rd 5 b=ah (i:Int)∧Ds v (dv (s.take i))∧k=s.length-i∧i≤s.length∧(∀c∈s.take i,eg c)∧e.get 5=.cells [aD,.an] 0∧6≤e.next) s.length ⟨0,.an,?_,?_,?_,?_,?_,.inr ⟨rfl,rfl⟩,rfl,bQ _,fun c h=>(by rw[q6]at h;cases h),?_,?_⟩ ?_
 iterate 4 simp only[go_sem]
 ·simp only[go_sem];rfl
 ·simp only[go_sem]
 ·exact aE 6
 rintro k b e ⟨i,v,f,o,J,B,p,A,rfl,hi,g,t,a1⟩;rw[aft];by_cases a0:i<s.length
 ·have w:decide (((i:Nat):Int)<((s.length:Nat):Int))=true:=bk aa;simp only[go_sem,afs,afr,f,p,w];refine agR s hs i hi _ _ _ ?_ ?_ ?_ ?_ ?_ ?_ t ?_ ?_
  iterate 6 simp only[go_sem,f,o,p]
  ·intro d j l M N O F X al C;have K:rd 0 d=.str s:=by rw[l 0 ag];simp only[go_sem,f]
   have q:rd 2 d=.ptr 5 0:=by rw[l 2 ag];simp only[go_sem,o]
   have r:rd 3 d=aD:=by rw[l 3 ag];simp only[go_sem,J]
   have L:rd 4 d=v:=by rw[l 4 ag];simp only[go_sem,B]
   have am:0<j:=aa;have H:s.take (i+j)=s.take i++(s.drop i).take j:=List.take_add;have E:((s.drop i).take j).length=j:=by rw[dD,gZ];omega
   have ad:dv (s.take (i+j))=dv (s.take i)*10^j+dv ((s.drop i).take j):=by rw[H,Nv,E]
   have R:∀c∈s.take (i+j),eg c:=by
    rw[H];intro x hx;rcases gI.1 hx with h|h
    ·exact g x h
    ·exact C x h
   have T:=ow _ C;rw[E]at T;have hp:10^j≤1000000000:=cy (gl ag F) ag;have S:=ow _ g;have y:∀n,n<10^s.length*10^9→(aN n).length<2000000:=fun n Z=>by
    have Q:n<4294967296^(s.length+9):=by
     refine eG Z ?_;rw[←gw];exact wN ag _
    have:=vh Q;omega
   have u:dv (s.take i)<10^s.length:=eG S (gl ag (by rw[dD];omega));have ap:=y (dv (s.take i)) (eG u (Nat.le_mul_of_pos_right _ ag));have ar:=y (dv (s.take i)*10^j) (eG (od u (fl ag)) (fy _ (gl ag F)));clear y u;generalize dv (s.take i)=a at*
   generalize dv ((s.drop i).take j)=c at*
   generalize 10^j=m at*
   have G:=PN (aN a) [m] (gP _) (.mk aa (fun _ h=>by cases h)) (by show _+1<_;omega);rw[fM,val_one]at G;have I:=rV [c] (by show 1<4294967296;decide);rw[pT (.mk (aa:c<4294967296) (fun _ h=>by cases h)),val_one]at I;have aw:(aN c).length≤1:=vh aa;have D:=I7 (aN (a*m)) (aN c) (gP _) (gP _) aa aa;rw[fM,fM]at D;simp only[go_sem,afq,L,O];refine jk (b:=e.next) (cs:=bt [m]) (args2:=[mag (aN a),mag [m]]) G ?_ ⟨0,1,.known 1,aB⟩ (.cons A.di (.cons (rA (l:=[m]) ?_ ?_ rfl) .nil)) ?_
   ·rw[af.bf,ak rfl];rfl
   ·rw[af.bf,ak rfl];rfl
   ·rw[af.aK,ak rfl]
   simp only[go_sem,N];refine jk (b:=e.next+1) (cs:=bt [c]) (args2:=[mag [c]]) I ?_ ⟨0,1,.known 1,aB⟩ (.cons (rA (l:=[c]) ?_ ?_ rfl) .nil) ?_
   ·simp only[go_sem];rfl
   ·simp only[go_sem];rfl
   ·rw[af.aK,ak rfl]
   simp only[go_sem];refine use D ?_;simp only[go_sem];refine⟨s.length-(i+j),aa,i+j,mag (aN (a*m+c)),?_,?_,?_,?_,?_,.inl (by rw[ad]),rfl,X,R,?_,?_⟩
   iterate 5 simp only[go_sem,K,q,r,M]
   ·simp(disch:=omega)only[go_sem,aj];exact t
   ·simp only[go_sem];omega
  ·intro d ab q r;simp only[go_sem,q,r];have z:vl s=.az [ct 0,aD]:=aj ab;rw[z,←OR];exact⟨_,.az (.cons (.agg (.cons (.same _) (.cons .fK .nil))) (.cons (.same _) .nil)),.az (.cons (.agg (.cons (.bool _) (.cons (.row 0 .nil) .nil))) (.cons (.bool _) .nil)),rfl⟩
 ·have W:i=s.length:=aa;subst W;have w:decide (((s.length:Nat):Int)<((s.length:Nat):Int))=false:=aZ aa;rw[b_ (aE _)]at A g;have z:vl s=.az [ct (dv s:Int),.bool (!decide (s=[]))]:=ak g;have Y:aW 86 [aD,v] (ct (dv s:Int)):=by
   rcases A with h|⟨h,P⟩
   ·rw[h];exact qF false _
   ·rw[h,P];exact amI false
  simp only[go_sem,afu,f,B,p,w];refine use Y ?_;simp only[go_sem,ct,dL,f,o,t];exact iA (by rw[z];rfl) U
end Go.Proofs.YtddhncjmaahodaaGreatDoor
namespace Go.aF
def ns(c:UInt8):Bool:= !decide (c=47)
def kr(l:List UInt8):Prop:=(∀c∈l,eg c)∧l≠[]
instance(l:List UInt8):Decidable (kr l):=by unfold kr;infer_instance
def zL(s:List UInt8):Bool:=decide (s.take 1=[45])
def iz(s:List UInt8):List UInt8:=if zL s then s.drop 1 else s
def mW(s:List UInt8):Int:=if zL s then-(dv ((iz s).takeWhile ns):Int)else(dv ((iz s).takeWhile ns):Int)
def mR(s:List UInt8):Rat×Bool:=
 if kr ((iz s).takeWhile ns)then
  if(iz s).dropWhile ns=[]then((mW s:Rat),decide (bh (mW s:Rat)=s))
  else if kr (((iz s).dropWhile ns).drop 1)∧dv (((iz s).dropWhile ns).drop 1)≠0 then
   (mkRat (mW s) (dv (((iz s).dropWhile ns).drop 1)),decide (bh (mkRat (mW s) (dv (((iz s).dropWhile ns).drop 1)))=s))
  else(0,false)
 else(0,false)
theorem aqb{a b:List UInt8}(g:∀c∈a,c≠47)(i:b=[]∨∃d,b=47::d):(a++b).takeWhile ns=a∧(a++b).dropWhile ns=b:=by
 have e:∀c∈a,ns c=true:=fun c h=>by unfold ns;rw[aZ (g c h)];rfl
 have f:b.takeWhile ns=[]∧b.dropWhile ns=b:=by
  rcases i with h|⟨d,h⟩
  ·rw[h];exact⟨rfl,rfl⟩
  ·rw[h];have:ns 47=false:=rfl;exact⟨by rw[List.takeWhile_cons,this];rfl,by rw[List.dropWhile_cons,this];rfl⟩
 constructor
 ·rw[List.takeWhile_append_of_pos e,f.1,fG]
 ·rw[List.dropWhile_append_of_pos e,f.2]
theorem RM(t:List UInt8):t=t.takeWhile ns++t.dropWhile ns∧(∀c∈t.takeWhile ns,c≠47)∧(t.dropWhile ns=[]∨∃d,t.dropWhile ns=47::d):=by
 refine⟨List.takeWhile_append_dropWhile.symm,?_,?_⟩
 ·induction t with
  |nil=>intro c h;cases h
  |cons x t f=>
   intro c a;rw[List.takeWhile_cons]at a;split at a
   ·rename_i b;rcases g7.1 a with h|h
    ·intro e;rw[h]at e;rw[e]at b;cases b
    ·exact f c h
   ·cases a
 ·induction t with
  |nil=>exact .inl rfl
  |cons x t f=>
   rw[List.dropWhile_cons];split
   ·exact f
   ·rename_i b;right;refine⟨t,?_⟩;by_cases h:x=47
    ·rw[h]
    ·exact absurd (by unfold ns;rw[aZ h];rfl) b
theorem afP{c:UInt8}(h:eg c):c≠47:=fun e=>by rw[e]at h;exact absurd h ag
variable{z:Rat}
theorem ari(f:¬z.num<0):(bh z).take 1≠[45]:=by
 have d:bh z=dec z.num.natAbs++(if z.den=1 then []else 47::dec z.den):=by unfold bh;rw[aj f];rfl
 intro h;rw[d]at h;cases a:dec z.num.natAbs with
 |nil=>exact o9 _ a
 |cons c l=>
  rw[a]at h;have b:eg c:=o8 z.num.natAbs c (by rw[a];exact .head _);have e:c=45:=by simpa using h
  rw[e]at b;exact absurd b ag
theorem Cw(q:Rat):mR (bh q)=(q,true):=by
 have b:zL (bh q)=decide (q.num<0):=by
  unfold zL;by_cases h:q.num<0
  ·rw[bk h];refine bk ?_;unfold bh;rw[ak h];rfl
  ·rw[aZ h];exact aZ (ari h)
 have d:iz (bh q)=dec q.num.natAbs++(if q.den=1 then []else 47::dec q.den):=by
  unfold iz;rw[b];by_cases h:q.num<0
  ·rw[ak (bk h)];unfold bh;rw[ak h];rfl
  ·rw[aj (by simpa using h)];unfold bh;rw[aj h];rfl
 have a:=aqb (a:=dec q.num.natAbs) (b:=if q.den=1 then []else 47::dec q.den) (fun c h=>afP (o8 _ c h)) (by
  by_cases h:q.den=1
  ·rw[ak h];exact .inl rfl
  ·rw[aj h];exact .inr ⟨_,rfl⟩)
 rw[←d]at a;have i:mW (bh q)=q.num:=by
  unfold mW;rw[b,a.1,nR];by_cases h:q.num<0
  ·rw[ak (bk h)];omega
  ·rw[aj (by simpa using h)];omega
 have g:kr (dec q.num.natAbs):=⟨o8 _,o9 _⟩;unfold mR;rw[a.1,a.2,i,ak g];by_cases h:q.den=1
 ·have f:(q.num:Rat)=q:=by
   apply Rat.ext
   ·rfl
   ·exact h.symm
  rw[ak h,ak rfl,f,bk rfl]
 ·have e:(47::dec q.den).drop 1=dec q.den:=rfl;rw[aj h,aj (List.cons_ne_nil _ _),e,nR,ak ⟨⟨o8 _,o9 _⟩,q.den_nz⟩,Rat.mkRat_self,bk rfl]
theorem QT(s:List UInt8):(mR s).2=(numOf s).isSome∧∀q,numOf s=some q→(mR s).1=q:=by
 cases h:numOf s with
 |some q=>
  have d:=vQ h;refine⟨?_,fun p c=>?_⟩
  ·rw[d,Cw];rfl
  ·cases c;rw[d,Cw]
 |none=>
  refine⟨?_,fun p c=>by cases c⟩;cases a:(mR s).2 with
  |false=>rfl
  |true=>
   have:bh (mR s).1=s:=by
    unfold mR at a⊢;split at a
    ·rename_i e;rw[ak e];split at a
     ·rename_i b;rw[ak b];exact of_decide_eq_true a
     ·rename_i b;rw[aj b];split at a
      ·rename_i f;rw[ak f];exact of_decide_eq_true a
      ·cases a
    ·cases a
   rw[←this,pF]at h;cases h
end Go.aF
namespace Go.Proofs.YtddhncjmaahodaaGreatDoor
open Go.au Go.aF
variable{a:Nat}
theorem aqR(z:Int)(c:z.natAbs<2^a)(e:a≤30000000):aW 22 [.agg [.bool (decide (z<0)),mag (aN z.natAbs),aD,.an]] (.str (bh (z:Rat))):=by
 refine cO (.cons (.agg (.cons (.bool _) (.cons (jZ _) (.cons (.bool _) (.cons .an .nil))))) .nil) (.str _) (aT OX ?_);have d:=Ft z c e;have i:=zg c;have g:pQ (qp .add) [.str [45],.str (dec z.natAbs)]=some (.val (.str ([45]++dec z.natAbs))):=x8 (by simp;omega);have hl:cT V.an=some (.val (ah 0)):=rfl;have b:decide ((0:Int)<0)=false:=rfl;have f:bh (z:Rat)=(if z<0 then [45]else [])++dec z.natAbs:=by
  unfold bh;rw[show((z:Rat)).num=z from rfl,show((z:Rat)).den=1 from rfl,ak rfl,fG]
 rw[f];simp only[go_sem,d22,LM,sP];refine use d ?_;by_cases h:z<0
 ·simp(disch:=assumption)only[go_sem,xh,xg,xe,dt,hl,b,g,ak]
 ·simp(disch:=assumption)only[go_sem,xh,xg,xe,df,hl,b,aj,eI]
def s4(r:Rat×Bool):V:=.az [bw r.1,.bool r.2]
theorem NZ(r:Rat×Bool):bz (s4 r):=.az (.cons (fX _) (.cons (.bool _) .nil))
theorem aqc(t a b:List UInt8)(hl:t.length≤1000000)(f:t=a++b)(C:∀c∈a,c≠47)(g:b=[]∨∃d,b=47::d)(F:Fr)(H:af)(R:X→Fr→af→Prop)(z:rd 4 F=.str t)(A:rd 6 F=ah (t.length:Int))(B:rd 7 F=ah 0)
 (u:∀m:Fr,(∀t,t<6→rd t m=rd t F)→rd 6 m=ah (a.length:Int)→R (.exit 0) m H):bx (.loop (pc 44 2)) R F H:=by
 refine bH (fun k h s=>∃i:Nat,(∀t,t<7→rd t h=rd t F)∧rd 7 h=ah (i:Int)∧k=a.length-i∧i≤a.length∧s=H) a.length ⟨0,fun _ _=>rfl,B,rfl,bQ _,rfl⟩ ?_;rintro k h s ⟨i,l,o,rfl,hi,rfl⟩;have n:rd 4 h=.str t:=by rw[l 4 ag];exact z
 have y:rd 6 h=ah (t.length:Int):=by rw[l 6 ag];exact A
 have w:t.length=a.length+b.length:=by rw[f,aS]
 rw[adQ];by_cases x:i<a.length
 ·have j:decide ((i:Int)<((t.length:Nat):Int))=true:=bk aa;obtain⟨c,v⟩:∃c,a[i]? =some c:=⟨a[i],cn x⟩;have q:t[i]? =some c:=by rw[f,lJ x];exact v
  have D:c≠47:=C c (eT v);have r:kF [.str t,ah (i:Int)]=some (.val (.int .u8 (c.toNat:Int))):=oE aa (by rw[bJ];exact q);have p:decide (((c.toNat:Nat):Int)=47)=false:=aZ fun e=>D (wT.1 (by show c.toNat=47;omega))
  have I:aC .i64 ((i:Int)+1)=((i+1:Nat):Int):=by rw[aH _ aa];rfl
  simp only[go_sem,MU,adP,n,o,j,r,p,I];refine⟨a.length-(i+1),aa,i+1,?_,?_,rfl,aa,rfl⟩
  ·intro t f;simp(disch:=omega)only[go_sem,aj];exact l t f
  ·simp only[go_sem]
 ·have E:i=a.length:=aa;subst E;rcases g with g|⟨d,g⟩
  ·have G:t.length=a.length:=by rw[w,g];rfl
   have j:decide (((a.length:Nat):Int)<((t.length:Nat):Int))=false:=aZ aa;simp only[go_sem,n,o,j];refine u _ ?_ ?_
   ·intro t f;simp(disch:=omega)only[go_sem,aj];exact l t aa
   ·simp only[go_sem,y];rw[G]
  ·have j:decide (((a.length:Nat):Int)<((t.length:Nat):Int))=true:=bk (by rw[w,g,cL];omega);have q:t[a.length]? =some 47:=by rw[f,q4 (aE _),m6,g];rfl
   have r:kF [.str t,ah (a.length:Int)]=some (.val (.int .u8 (((47:UInt8).toNat:Nat):Int))):=oE aa (by rw[bJ];exact q);have p:decide ((((47:UInt8).toNat:Nat):Int)=47)=true:=rfl;simp only[go_sem,MU,n,o,j,r,p];refine u _ ?_ ?_
   ·intro t f;simp(disch:=omega)only[go_sem,aj];exact l t aa
   ·simp only[go_sem]
theorem NR(s:List UInt8):∃z:Int,vl s=.az [ct z,.bool (decide (kr s))]∧(kr s→z=(dv s:Int)):=by
 unfold vl;by_cases h:∀c∈s,eg c
 ·rw[ak h];refine⟨_,?_,fun _=>rfl⟩;congr 3;by_cases a:s=[]
  ·rw[bk a,aZ (fun g:kr s=>g.2 a)];rfl
  ·rw[aZ a,bk (show kr s from⟨h,a⟩)];rfl
 ·rw[aj h];refine⟨0,?_,fun g=>absurd g.1 h⟩;rw[aZ (fun g:kr s=>h g.1)]
theorem aoL:V.agg [aD,.row 0 [],aD,.row 0 []]=bw 0:=by
 unfold bw aV;rw[show(0:Rat).num=0 from rfl,show dd 0=0 from rfl,Int.natAbs_zero,iV];rfl
variable{c:af}{H:af}
theorem F0:∃v,bR c H (.az [.agg [aD,.an,aD,.an],aD]) v∧bz v∧v=s4 (0,false):=by
 refine⟨_,.az (.cons (.agg (.cons (.same _) (.cons .fK (.cons (.same _) (.cons .fK .nil))))) (.cons (.same _) .nil)),?_⟩;rw[aoL];exact⟨NZ (0,false),rfl⟩
variable{j:List UInt8}
theorem Bo(h:∀c∈j,eg c)(hl:j.length≤500):dv j<2^2000:=by
 exact @Go.aF.zY (dv j) 10 j.length 2 4 2000 (ow j h) ag aa ag
theorem ao5(s t a b:List UInt8)(neg:Bool)(hl:s.length≤500)(ap:t.length≤s.length)(M:t=a++b)(T:b=[]∨∃d,b=47::d)(S:kr a)(z:Int)(N:z=if neg then-(dv a:Int)else(dv a:Int))(r:Rat×Bool)
 (f:r=if b=[]then((z:Rat),decide (bh (z:Rat)=s))else if kr (b.drop 1)∧dv (b.drop 1)≠0 then(mkRat z (dv (b.drop 1)),decide (bh (mkRat z (dv (b.drop 1)))=s))else(0,false)) (F:Fr) (H:af) (G:rd 0 F=.str s) (k:rd 2 F=.ptr 5 0) (I:rd 4 F=.str t) (P:rd 5 F=.bool neg) (J:rd 6 F=ah (a.length:Int)) (Q:rd 8 F=.ptr 6 0) (l:H.get 5=.cells [aD,.an,aD,.an] 0) (R:H.get 6=.cells [aD,mag (aN (dv a))] 0) (c:H.next=7):
 bx (pc 44 5) (gk [.cell 2 true 4,.tmp 3] fun v1 E=>∃v,bR E (af.zero E.next) v1 v∧bz v∧v=s4 r) F H:=by
 have B:=qF neg (dv a);rw[←N]at B;have o:t.length=a.length+b.length:=by rw[M,aS]
 have D:z.natAbs<2^2000:=by
  have:=Bo S.1 aa;rw[N];split
  ·rw[mZ,dB];exact this
  ·rw[dB];exact this
 unfold ct dL at B;simp only[go_sem,adR,P,Q,R];refine use B ?_;rcases T with n|⟨d,i⟩
 ·rw[ak n]at f;have w:decide (((a.length:Nat):Int)<((t.length:Nat):Int))=false:=aZ (by rw[o,n];show¬_<((a.length+0:Nat):Int);omega);have p:=aqR z D ag;simp only[go_sem,MW,MV,I,J,w,G,c];refine use p ?_;have am:decide (bh (z:Rat)=s)=decide (bh (z:Rat)=s):=rfl;simp only[go_sem,k,l,c,true_and];rw[f];refine⟨_,.az (.cons (.agg (.cons (.same _) (.cons (.same _) (.cons (.same _) (.cons .fK .nil))))) (.cons (.same _) .nil)),?_⟩;have e:V.row 0 []=mag (aN (dd (z:Rat))):=by rw[ng rfl,iV];rfl
  rw[e];exact⟨.az (.cons (fX (z:Rat)) (.cons (.bool _) .nil)),rfl⟩
 ·have n:¬b=[]:=by rw[i];exact List.cons_ne_nil _ _
  have W:b.drop 1=d:=by rw[i];rfl
  rw[aj n,W]at f;have w:decide (((a.length:Nat):Int)<((t.length:Nat):Int))=true:=bk (by rw[o,i,cL];omega);have U:d.length≤500:=by rw[i,cL]at o;omega
  have w1:aC .i64 (((a.length:Nat):Int)+1)=((a.length+1:Nat):Int):=by rw[aH _ aa];omega
  have Y:slice3 k4 true false false [.str t,ah ((a.length+1:Nat):Int)]=some (.val (.str d)):=by
   rw[we (by rw[o,i,cL];omega),bJ,M,i,List.drop_append,Nat.add_sub_cancel_left];rw[List.drop_eq_nil_of_le aa];rfl
  obtain⟨x,Z,ab⟩:=NR d;have y:=Oj d aa;rw[Z]at y;have L:=RK x;unfold ct dL at y L;simp only[go_sem,MW,I,J,w,c,w1,Y];refine use y ?_;by_cases g:kr d
  ·have j:=ab g;have u:decide (kr d)=true:=bk g;simp only[go_sem,u,c];refine use L ?_;by_cases m:dv d=0
   ·rw[aj (fun h=>h.2 m)]at f;have C:decide ((if x<0 then(-1:Int)else if x=0 then 0 else 1)=0)=true:=by rw[j,m];rfl
    simp only[go_sem,C,k,l,c];rw[f];exact F0
   ·rw[ak ⟨g,m⟩]at f;have C:decide ((if x<0 then(-1:Int)else if x=0 then 0 else 1)=0)=false:=by
     rw[j,aj aa,aj aa];rfl
    have K:=Bo g.1 U;have A:=xC z x (by rw[j];omega) (dW.of D ag) (by rw[j,dB];exact dW.of K ag);have O:nL z x=mkRat z (dv d):=by rw[j,u5]
    rw[O]at A;have X:a_ 2000 (mkRat z (dv d)):=by
     obtain⟨m1,m2⟩:=mk_le z m;exact⟨eY m1 D,eY m2 K⟩
    have p:=uH _ X ag;generalize mkRat z (dv d)=q at*
    unfold ct dL bw aV at A;unfold bw aV at p;simp only[go_sem,C,c];refine use A ?_;simp only[go_sem,MV,G,c];refine use p ?_;simp only[go_sem,k,l,c,true_and];rw[f];exact⟨_,.same _,NZ (q,decide (bh q=s)),rfl⟩
  ·have u:decide (kr d)=false:=aZ g;rw[aj (fun h=>g h.1)]at f;simp only[go_sem,u,k,l,c];rw[f];exact F0
theorem zP(s:List UInt8)(hl:s.length≤500):aW 44 [.str s] (s4 (mR s)):=by
 refine fE (.cons (.str _) .nil) (aT alm ?_);obtain⟨g,A,m⟩:=RM (iz s);obtain⟨t,i⟩:∃t,t=iz s:=⟨_,rfl⟩;obtain⟨neg,bE⟩:∃b,b=zL s:=⟨_,rfl⟩;have S:t.length≤s.length:=by
  rw[i];unfold iz;split
  ·rw[gZ];omega
  ·omega
 have I:mW s=if neg then-(dv ((iz s).takeWhile ns):Int)else(dv ((iz s).takeWhile ns):Int):=by rw[bE];rfl
 have h:mR s=if kr ((iz s).takeWhile ns)then(if(iz s).dropWhile ns=[]then((mW s:Rat),decide (bh (mW s:Rat)=s))
  else if kr (((iz s).dropWhile ns).drop 1)∧dv (((iz s).dropWhile ns).drop 1)≠0 then
   (mkRat (mW s) (dv (((iz s).dropWhile ns).drop 1)),decide (bh (mkRat (mW s) (dv (((iz s).dropWhile ns).drop 1)))=s))
  else(0,false))else(0,false):=rfl
 have C:∀(F:Fr) (H:af),rd 0 F=.str s→rd 2 F=.ptr 5 0→rd 4 F=.str t→rd 5 F=.bool neg→H.get 5=.cells [aD,.an,aD,.an] 0→H.next=6→
  bx (pc 44 9) (gk [.cell 2 true 4,.tmp 3] fun Z J=>∃v,bR J (af.zero J.next) Z v∧bz v∧v=s4 (mR s)) F H:=by
  intro F H P Q w R L E;rw[←i]at g A m I h;generalize t.takeWhile ns=a at*
  generalize t.dropWhile ns=b at*
  generalize mR s=r at*
  generalize mW s=z at*
  have ab:a.length≤t.length:=by rw[g,aS];omega
  simp only[go_sem,adU,adT,w];refine aqc t a b aa g A m _ _ _ ?_ ?_ ?_ ?_
  iterate 3 simp only[go_sem,w]
  intro l p K;have X:rd 0 l=.str s:=by rw[p 0 ag];simp only[go_sem,P]
  have N:rd 2 l=.ptr 5 0:=by rw[p 2 ag];simp only[go_sem,Q]
  have O:rd 4 l=.str t:=by rw[p 4 ag];simp only[go_sem,w]
  have Y:rd 5 l=.bool neg:=by rw[p 5 ag];simp only[go_sem,R]
  have G:slice3 k4 false true false [.str t,ah ((a.length:Nat):Int)]=some (.val (.str a)):=by
   rw[CT aa,bJ,g,p_]
  obtain⟨x,T,V⟩:=NR a;have D:=Oj a aa;rw[T]at D;unfold ct dL at D;simp only[go_sem,adS,O,K,G];refine use D ?_;by_cases f:kr a
  ·rw[ak f]at h;have y:decide (kr a)=true:=bk f;have ac:=V f;have W:decide (x<0)=false:=aZ aa;have U:x.natAbs=dv a:=aa;simp only[go_sem,MX,y,E,W,U];refine ao5 s t a b neg hl S g m f z I r h _ _ ?_ ?_ ?_ ?_ ?_ ?_ ?_ ?_ ?_
   iterate 9 simp only[go_sem,X,N,O,Y,K,E,L]
  ·rw[aj f]at h;have y:decide (kr a)=false:=aZ f;simp only[go_sem,MX,y,N,L,E];rw[h];exact F0
 clear h I g A m;by_cases q:s=[]
 ·have n:decide ((0:Int)<((s.length:Nat):Int))=false:=aZ (by rw[q];decide);have d:neg=false:=by rw[bE,q];rfl
  have k:t=s:=by rw[i,q];rfl
  subst d;subst k;simp only[go_sem,d44,Fg,Ff,Fe,n];refine C _ _ ?_ ?_ ?_ ?_ ?_ rfl
  all_goals simp only[go_sem]
 ·obtain⟨c,u,j⟩:∃c u,s=c::u:=by
   cases s with
   |nil=>exact absurd rfl q
   |cons c u=>exact⟨c,u,rfl⟩
  have n:decide ((0:Int)<((s.length:Nat):Int))=true:=bk (by rw[j,cL];omega);have M:kF [.str s,ah 0]=some (.val (.int .u8 (c.toNat:Int))):=oE ag (by rw[j];rfl);by_cases o:c=45
  ·have d:neg=true:=by rw[bE,j,o];exact bk rfl
   have k:t=s.drop 1:=by rw[i];unfold iz;rw[←bE,d];rfl
   have B:decide (((c.toNat:Nat):Int)=45)=true:=by rw[o];rfl
   have G:slice3 k4 true false false [.str s,ah 1]=some (.val (.str t)):=by
    rw[we ⟨ag,by rw[j,cL];omega⟩,k];rfl
   subst d;simp only[go_sem,d44,Fg,Ff,Fe,n,M,B,G];refine C _ _ ?_ ?_ ?_ ?_ ?_ rfl
   all_goals simp only[go_sem]
  ·have d:neg=false:=by
    rw[bE,j];exact aZ fun e=>o (by simpa using e)
   have k:t=s:=by rw[i];unfold iz;rw[←bE,d];rfl
   have B:decide (((c.toNat:Nat):Int)=45)=false:=aZ fun e=>o (wT.1 (by show c.toNat=45;omega))
   subst d;subst k;simp only[go_sem,d44,Fg,Ff,Fe,n,M,B];refine C _ _ ?_ ?_ ?_ ?_ ?_ rfl
   all_goals simp only[go_sem]
section
variable {α:Type} (f:α→List V) (k:Nat)
def bC:List α→List V
 |[]=>[]
 |a::l=>f a++bC l
def b4(l:List α):V:=.row l.length (bC f l)
theorem hG{k:Nat}(b:∀a,(f a).length=k):∀l,(bC f l).length=l.length*k
 |[]=>by simp[bC]
 |a::l=>by simp only[bC,aS,hG b l,b a,cL,oe];omega
theorem qL:∀(l m:List α),bC f (l++m)=bC f l++bC f m
 |[],_=>rfl
 |t::l,m=>by simp only[eS,bC,qL l m,eJ]
variable{h:Nat}
theorem apy(b:∀a,(f a).length=h)(l:List α)(i:Nat):(bC f l).drop (i*h)=bC f (l.drop i):=by
 induction l generalizing i with
 |nil=>simp[bC]
 |cons t l c=>
  cases i with
  |zero=>simp
  |succ i=>
   rw[oe,i_];show(f t++bC f l).drop (h+i*h)=bC f (l.drop i);rw[←b t,List.drop_length_add_append,b t,c]
theorem ia{f:α→List V}{k:Nat}(b:∀a,(f a).length=k){l:List α}{a:α}(c:l[h]? =some a):cq (eC (bC f l) (h*k)) k=some (f a):=by
 obtain⟨hi,rfl⟩:=fN.1 c;rw[kG,apy f b,lI hi];show cq (f l[h]++bC f _) k=_;rw[e4,ak (by rw[aS,b];omega),←b l[h],p_]
theorem BC(b:∀a,bY (f a)):∀l,bY (bC f l)
 |[]=>.nil
 |a::l=>lu (b a) (BC b l)
theorem iN{f:α→List V}(b:∀a,bY (f a))(l:List α):bz (b4 f l):=.row _ (BC f b l)
@[go_sem]theorem avu(l:List α):cT (b4 f l)=some (.val (ah (l.length:Int))):=rfl
theorem ff{f:α→List V}{k:Nat}{l:List α}{i:Int}{ik:IntKind}(h:0≤i∧i<l.length):dJ none k [b4 f l,.int ik i]=some (.val (.cY (bC f l) (i.toNat*k))):=kh h
variable{b:List V}{u:Nat}
theorem oB{f:α→List V}(p:∀a,(f a).length=h)(g:0<h){v:V}{l:List α}(i:aI c h v b u)(o:cD c H b (bC f l))(j:∀y,u≠0→c.get y=.cells b u→H.get y=.none)(n:b.length=l.length*h):bR c H v (b4 f l):=by
 obtain⟨m,d,e⟩:=i.di (H2:=H) g j o;rw[n]at e;have:m=l.length:=Nat.eq_of_mul_eq_mul_right g e;rw[this]at d;exact d
end
abbrev dH:=List UInt8×List UInt8
def cw(s:dH):List V:=[.str s.1,.str s.2]
def ij(l:List dH):V:=.agg [b4 cw l]
theorem sH(s:dH):bY (cw s):=.cons (.str _) (.cons (.str _) .nil)
theorem pe(l:List dH):bz (ij l):=.agg (.cons (iN sH l) .nil)
structure cc where
 lo:Rat
 hi:Rat
 hl:Bool
 hh:Bool
def ez(s:cc):List V:=aV s.lo++(aV s.hi++[.bool s.hl,.bool s.hh])
theorem l8(s:cc):(ez s).length=10:=rfl
theorem N0(s:cc):bY (ez s):=lu (pg _) (lu (pg _) (.cons (.bool _) (.cons (.bool _) .nil)))
def c6(l:List cc):V:=b4 ez l
theorem lq(l:List cc):bz (c6 l):=iN N0 l
def jj(t:List UInt8):Rat×Bool:=if t=[]then(0,true)else mR t
def uy(s:dH):Option cc:=
 if(jj s.1).2=true∧(jj s.2).2=true∧¬(s.1≠[]∧s.2≠[]∧0≤fL ((jj s.1).1-(jj s.2).1))then some ⟨(jj s.1).1,(jj s.2).1, !decide (s.1=[]), !decide (s.2=[])⟩else none
def s3:List dH→Option (List cc)
 |[]=>some []
 |s::l=>match uy s with
  |some x=>(s3 l).map (x:: ·)
  |none=>none
def s0(a:Nat)(l:List dH):V:=match s3 l with
 |some x=>.az [c6 x,.bool (decide (x.length=a))]
 |none=>.az [c6 [],.bool false]
def kV:List V:=[aD,.an,aD,.an]
def sw(e:Bool)(c:List V)(x:Rat):Prop:=(e=false∧c=kV∧x=0)∨(e=true∧c=aV x)
theorem QJ:aV 0=[aD,.row 0 [],aD,.row 0 []]:=by
 unfold aV;rw[show(0:Rat).num=0 from rfl,show dd 0=0 from rfl,Int.natAbs_zero,iV];rfl
variable{p:Bool}{b:List V}{z:Rat}
theorem sw.di{H H2:af}(h:sw p b z):cD H H2 b (aV z):=by
 rcases h with⟨_,rfl,rfl⟩|⟨_,rfl⟩
 ·rw[QJ];exact .cons (.same _) (.cons .fK (.cons (.same _) (.cons .fK .nil)))
 ·exact cD.refl _
theorem sw.len(h:sw p b z):∃a c d e,b=[a,c,d,e]∧cG [a,c,d,e]=true:=by
 rcases h with⟨_,rfl,rfl⟩|⟨_,rfl⟩
 ·exact⟨_,_,_,_,rfl,rfl⟩
 ·exact⟨_,_,_,_,rfl,rfl⟩
def QL:aP:=(.bN [ex 17 (cz none 2 (rd 13) (rd 15)),ex 18 (bp true 2 (rd 17)),ex 8 (alloc [(.str []),(.str [])]),bE (st 2 (rd 8) (rd 18))])
def QM:aP:=(.bN [ex 19 (fa 0 (rd 8)),ex 20 (bp false 1 (rd 19)),ex 21 (bs .neq (rd 20) (kc (.str []))),ex 22 (fa 1 (rd 8)),ex 23 (bp false 1 (rd 22)),ex 24 (bs .neq (rd 23) (kc (.str []))),ex 25 (dI [(8,1),(9,1)] [aD,.an,aD,.an,aD,.an,aD,.an,aD,aD] [(rd 21),(rd 24)]),ex 9 (alloc [aD,.an,aD,.an,aD,.an,aD,.an,aD,aD]),bE (st 10 (rd 9) (rd 25))])
def QN:aP:=(.bN [ex 10 (bS (kc bO)),ex 11 (bS (kc bO))])
def Cv:aP:=(.seq (.bN [ex 26 (fa 8 (rd 9)),ex 27 (bp false 1 (rd 26))])
 (.cond (rd 27) (.bN [ex 29 (fa 0 (rd 8)),ex 30 (bp false 1 (rd 29)),ex 31 (cm 44 [(rd 30)]),ex 28 (mv (rd 31)),ex 32 (ext 0 (rd 28)),ex 33 (ext 1 (rd 28)),ex 34 (fa 0 (rd 9)),bE (st 4 (rd 34) (rd 32)),ex 10 (bS (rd 33))]) .skip))
def Cu:aP:=(.seq (.bN [ex 35 (fa 9 (rd 9)),ex 36 (bp false 1 (rd 35))])
 (.cond (rd 36) (.bN [ex 38 (fa 1 (rd 8)),ex 39 (bp false 1 (rd 38)),ex 40 (cm 44 [(rd 39)]),ex 37 (mv (rd 40)),ex 41 (ext 0 (rd 37)),ex 42 (ext 1 (rd 37)),ex 43 (fa 4 (rd 9)),bE (st 4 (rd 43) (rd 41)),ex 11 (bS (rd 42))]) .skip))
def vV:aP:=(.seq (.bN [ex 44 (mv (rd 10)),ex 45 (not (rd 44)),ex 46 (mv (rd 45)),bF 46 false 47 (mv (rd 11)),bF 46 false 48 (not (rd 47)),ex 49 (pick (rd 46) (kc bO) (rd 48)),ex 50 (mv (rd 49)),bF 50 false 51 (fa 8 (rd 9)),bF 50 false 52 (bp false 1 (rd 51)),bF 50 false 53 (mv (rd 52)),bF 53 true 54 (fa 9 (rd 9)),bF 53 true 55 (bp false 1 (rd 54)),bF 50 false 56 (pick (rd 53) (rd 55) (kc aD)),bF 50 false 57 (mv (rd 56)),bF 57 true 58 (fa 0 (rd 9)),bF 57 true 59 (bp true 4 (rd 58)),bF 57 true 60 (fa 4 (rd 9)),bF 57 true 61 (bp true 4 (rd 60)),bF 57 true 62 (cm 40 [(rd 59),(rd 61)]),bF 57 true 63 (bi .geq (rd 62) (kc (ah 0))),bF 50 false 64 (pick (rd 57) (rd 63) (kc aD)),ex 65 (pick (rd 50) (kc bO) (rd 64))])
 (.cond (rd 65) (.seq (.bN [ex 4 (bS (kc .an)),ex 5 (bS (kc aD))])
 .ret) .skip))
def QO:aP:=(.bN [ex 66 (mv (rd 6)),ex 67 (bp true 10 (rd 9)),ex 68 (c8 1 [(0,10)] [aD,.an,aD,.an,aD,.an,aD,.an,aD,aD] [(rd 67)]),ex 69 (ap 10 136 (rd 66) (rd 68)),ex 6 (bS (rd 69))])
theorem TY:(pc 14 1)=.seq (.block 1 (.seq QL (.seq QM (.seq QN (.seq Cv (.seq Cu (.seq vV QO))))))) (pc 14 0):=W9
theorem aoO(lo hi:List UInt8)(o:lo.length≤500)(j a:Nat)(k:Bool)(F:Fr)(H:af)(R:X→Fr→af→Prop)(K:Fr→af→Prop)(n:rd 8 F=.ptr j 0)(i:rd 9 F=.ptr a 0)(m:rd 10 F=bO)(eR:H.get j=.cells [.str lo,.str hi] 0)(cM:H.get a=.cells (kV++(kV++[.bool (!decide (lo=[])),.bool k])) 0)
 (b:∀(g:Fr) (f:af) (c:List V),(∀t,t<26→t≠10→rd t g=rd t F)→rd 10 g=.bool (jj lo).2→sw (!decide (lo=[])) c (jj lo).1→f.get a=.cells (c++(kV++[.bool (!decide (lo=[])),.bool k])) 0→(∀y,y≠a→f.get y=H.get y)→f.next=H.next→K g f):
 bx Cv (fq K R) F H:=by
 unfold jj at b;by_cases h:lo=[]
 ·have d:decide (lo=[])=true:=bk h;rw[ak h,d]at b;rw[d]at cM;simp only[kV,eS,eI]at cM;simp only[go_sem,Cv,i,cM,gG];refine b _ _ kV ?_ ?_ (.inl ⟨rfl,rfl,rfl⟩) cM (fun _ _=>rfl) rfl
  ·intro t q p;simp(disch:=omega)only[go_sem,aj]
  ·simp only[go_sem,m]
 ·have d:decide (lo=[])=false:=aZ h;rw[aj h,d]at b;rw[d]at cM;have l:=zP lo o;unfold s4 bw aV at l;simp only[kV,eS,eI]at cM;simp only[go_sem,Cv,n,i,eR,cM,iY];refine use l ?_;simp only[go_sem,i,cM];refine b _ _ (aV (mR lo).1) ?_ ?_ (.inr ⟨rfl,rfl⟩) ?_ ?_ ?_
  ·intro t q p;simp(disch:=omega)only[go_sem,aj]
  ·simp only[go_sem]
  ·simp only[go_sem];rfl
  ·intro y r;have s:¬a=y:=fun e=>r e.symm
   simp only[go_sem,aj s]
  ·simp only[go_sem]
theorem aoM(lo hi:List UInt8)(q:hi.length≤500)(l a:Nat)(j:Bool)(c:List V)(x:Rat)(p:sw j c x)(F:Fr)(H:af)(R:X→Fr→af→Prop)(K:Fr→af→Prop)(o:rd 8 F=.ptr l 0)(k:rd 9 F=.ptr a 0)(n:rd 11 F=bO)(eR:H.get l=.cells [.str lo,.str hi] 0)(cM:H.get a=.cells (c++(kV++[.bool j,.bool (!decide (hi=[]))])) 0)
 (b:∀(g:Fr) (f:af) (i:List V),(∀t,t<35→t≠11→rd t g=rd t F)→rd 11 g=.bool (jj hi).2→sw (!decide (hi=[])) i (jj hi).1→f.get a=.cells (c++(i++[.bool j,.bool (!decide (hi=[]))])) 0→(∀y,y≠a→f.get y=H.get y)→f.next=H.next→K g f):
 bx Cu (fq K R) F H:=by
 unfold jj at b;obtain⟨w,z,i,A,rfl,B⟩:=p.len;by_cases h:hi=[]
 ·have d:decide (hi=[])=true:=bk h;rw[ak h,d]at b;rw[d]at cM;simp only[kV,eS,eI]at cM;simp only[go_sem,Cu,k,cM,gG];refine b _ _ kV ?_ ?_ (.inl ⟨rfl,rfl,rfl⟩) cM (fun _ _=>rfl) rfl
  ·intro t s r;simp(disch:=omega)only[go_sem,aj]
  ·simp only[go_sem,n]
 ·have d:decide (hi=[])=false:=aZ h;rw[aj h,d]at b;rw[d]at cM;have m:=zP hi q;unfold s4 bw aV at m;simp only[kV,eS,eI]at cM;simp only[go_sem,Cu,o,k,eR,cM,iY];refine use m ?_;simp only[go_sem,k,cM];refine b _ _ (aV (mR hi).1) ?_ ?_ (.inr ⟨rfl,rfl⟩) ?_ ?_ ?_
  ·intro t s r;simp(disch:=omega)only[go_sem,aj]
  ·simp only[go_sem]
  ·simp only[go_sem];rfl
  ·intro y u;have v:¬a=y:=fun e=>u e.symm
   simp only[go_sem,aj v]
  ·simp only[go_sem]
variable{h:Nat}
theorem aoN(s:Nat)(k l g i:Bool)(c u:List V)(x y:Rat)(D:sw g c x)(z:sw i u y){a:Nat}(I:a_ a x)(J:a_ h y)(C:a+h+1≤30000000)(F:Fr)(H:af)(R:X→Fr→af→Prop)(K:Fr→af→Prop)(m:rd 9 F=.ptr s 0)(e:rd 10 F=.bool k)(j:rd 11 F=.bool l)(cM:H.get s=.cells (c++(u++[.bool g,.bool i])) 0)
 (n:∀d:Fr,k=true∧l=true∧¬(g=true∧i=true∧0≤fL (x-y))→(∀t,t<44→rd t d=rd t F)→K d H)
 (o:∀d:Fr,¬(k=true∧l=true∧¬(g=true∧i=true∧0≤fL (x-y)))→(∀t,t<44→t≠4→t≠5→rd t d=rd t F)→rd 4 d=.an→rd 5 d=aD→R .ret d H):
 bx vV (fq K R) F H:=by
 have O:∀ {d:Fr}{G:Fr},(∀t,t<44→rd t d=rd t G)→(∀t,t<44→rd t d=rd t G):=fun b=>b
 cases k with
 |false=>
  simp only[go_sem,vV,e,iY];refine o _ (fun b=>tA b.1) ?_ ?_ ?_
  ·intro t f v w;simp(disch:=omega)only[go_sem,aj]
  all_goals simp only[go_sem]
 |true=>
  cases l with
  |false=>
   simp only[go_sem,vV,e,j,iY,gG];refine o _ (fun b=>tA b.2.1) ?_ ?_ ?_
   ·intro t f v w;simp(disch:=omega)only[go_sem,aj]
   all_goals simp only[go_sem]
  |true=>
   rcases D with⟨rfl,r,_⟩|⟨rfl,A⟩
   ·obtain⟨L,M,N,d3,rfl,_⟩:=z.len;subst r;simp only[kV,eS,eI]at cM;simp only[go_sem,vV,m,e,j,cM,gG];refine n _ ⟨rfl,rfl,fun b=>tA b.1⟩ ?_;intro t f;simp(disch:=omega)only[go_sem,aj]
   ·rcases z with⟨rfl,r,_⟩|⟨rfl,E⟩
    ·subst r;subst A;simp only[kV,aV,eS,eI]at cM;simp only[go_sem,vV,m,e,j,cM,gG];refine n _ ⟨rfl,rfl,fun b=>tA b.2.1⟩ ?_;intro t f;simp(disch:=omega)only[go_sem,aj]
    ·subst A;subst E;have q:=xZ x y I J C;unfold bw at q;simp only[aV,eS,eI]at cM q;simp only[go_sem,vV,m,e,j,cM,gG];refine use q ?_;by_cases B:0≤fL (x-y)
     ·have p:decide (fL (x-y)<0)=false:=aZ aa;simp only[go_sem,p];refine o _ (fun b=>b.2.2 ⟨rfl,rfl,B⟩) ?_ ?_ ?_
      ·intro t f v w;simp(disch:=omega)only[go_sem,aj]
      all_goals simp only[go_sem]
     ·have p:decide (fL (x-y)<0)=true:=bk aa;simp only[go_sem,p];refine n _ ⟨rfl,rfl,fun b=>B b.2.2⟩ ?_;intro t f;simp(disch:=omega)only[go_sem,aj]
theorem aoB{k:Nat}{q:Rat}(a:q.num.natAbs<2^k)(b:q.den<2^k):a_ k q:=⟨a,b⟩
theorem QD{k:Nat}{z:Int}(h:z.natAbs<2^k)(a:0<k):a_ k (z:Rat):=⟨h,Nat.one_lt_two_pow aa⟩
theorem aoR(hl:j.length≤500):a_ 2001 (mR j).1:=by
 have e:a_ 2001 0:=@Go.aF.Ct 2001 aa;have c:=RM (iz j);have m:(iz j).length≤j.length:=by
  unfold iz;split
  ·rw[gZ];omega
  ·omega
 have g:((iz j).takeWhile ns).length≤500:=by
  have:=congrArg ku c.1;rw[aS]at this;omega
 have i:(((iz j).dropWhile ns).drop 1).length≤500:=by
  have:=congrArg ku c.1;rw[aS]at this;rw[gZ];omega
 have a:∀ {n:Nat},n<2^2000→n<2^2001:=fun{n} h=>@Go.aF.zY n 2 2000 2 1 2001 h ag ag ag
 unfold mR;split
 ·rename_i f;have d:(mW j).natAbs<2^2000:=by
   have:=Bo f.1 g;unfold mW;split
   ·rw[mZ,dB];exact this
   ·rw[dB];exact this
  split
  ·exact @QD 2001 (mW j) (a d) aa
  ·split
   ·rename_i b;obtain⟨k,l⟩:=mk_le (mW j) b.2;exact @aoB 2001 _ (a (eY k d)) (a (eY l (Bo b.1.1 i)))
   ·exact e
 ·exact e
theorem QU(hl:j.length≤500):a_ 2001 (jj j).1:=by
 unfold jj;split
 ·exact @Go.aF.Ct 2001 aa
 ·exact aoR hl
theorem aoU:s3 []=some []:=rfl
theorem aoT(s:dH)(l:List dH):s3 (s::l)=match uy s with
 |some x=>(s3 l).map (x:: ·)
 |none=>none:=rfl
theorem aoZ(f:Nat)(l:List dH)(hl:l.length≤1000)(hs:∀s∈l,s.1.length≤500∧s.2.length≤500):aW 14 [ah (f:Int),ij l] (s0 f l):=by
 refine fE (.cons (.int _ _) (.cons (pe l) .nil)) (aT ud ?_);have c1:bz (s0 f l):=by
  unfold s0;split
  ·exact .az (.cons (lq _) (.cons (.bool _) .nil))
  ·exact .az (.cons (lq _) (.cons (.bool _) .nil))
 simp only[go_sem,d14,Xc,Xb,ij];refine bH (fun k q b=>∃(i:Nat) (v:V) (g:Nat) (w:List V) (m:List cc),k=l.length-i∧i≤l.length∧rd 0 q=ah (f:Int)∧rd 6 q=v∧rd 13 q=b4 cw l∧rd 14 q=ah (l.length:Int)∧rd 15 q=ah (i:Int)∧aI b 10 v w g∧(∀H j:af,cD H j w (bC ez m))∧m.length=i∧w.length=i*10∧s3 l=(s3 (l.drop i)).map (m++ ·)) l.length ⟨0,.an,0,[],[],rfl,bQ _,?_,?_,?_,?_,?_,.nil,fun _ _=>.nil,rfl,rfl,?_⟩ ?_
 iterate 4 simp only[go_sem]
 ·simp only[go_sem];rfl
 ·simp
 rintro k q b ⟨i,v,g,w,m,rfl,hi,f0,f6,ac,K,L,R,u,N,W,p⟩;rw[W_];by_cases bs:i<l.length
 ·obtain⟨s,U⟩:∃s,l[i]? =some s:=⟨l[i],cn bs⟩;obtain⟨lo,a⟩:=s;obtain⟨X,Y⟩:=hs _ (eT U);simp only at X Y;have ea:=ia (k:=2) (fun _=>rfl) U (f:=cw);have O:decide ((i:Int)<((l.length:Nat):Int))=true:=bk aa;have bc:l.drop i=(lo,a)::l.drop (i+1):=by
   obtain⟨o,h2⟩:=fN.1 U;rw[lI o,h2]
  rw[bc,aoT]at p;simp(disch:=omega)only[go_sem,K4,TY,QL,QM,QN,ac,K,L,O,ff,bJ,ea,cw];refine aoO lo a X b.next (b.next+1) (!decide (a=[])) _ _ _ _ ?_ ?_ ?_ ?_ ?_ ?_
  iterate 3 simp only[go_sem]
  ·simp(disch:=omega)only[go_sem,aj]
  ·simp(disch:=omega)only[go_sem];rfl
  intro a1 j c d a3 A gc al bv;have ce:∀y,y<b.next→j.get y=b.get y:=fun y hy=>by
   rw[al y aa];simp(disch:=omega)only[go_sem,aj]
  have c':j.next=b.next+2:=by rw[bv];simp only[go_sem]
  have eR:j.get b.next=.cells [.str lo,.str a] 0:=by
   rw[al _ aa];simp(disch:=omega)only[go_sem,aj]
  simp only[go_sem];refine aoM lo a Y b.next (b.next+1) (!decide (lo=[])) c _ A _ _ _ _ ?_ ?_ ?_ eR gc ?_
  ·rw[d 8 ag ag];simp only[go_sem]
  ·rw[d 9 ag ag];simp only[go_sem]
  ·rw[d 11 ag ag];simp only[go_sem]
  intro cs Z c2 bA a4 P M ba da;have cf:∀y,y<b.next→Z.get y=b.get y:=fun y hy=>by
   rw[ba y aa,ce y hy]
  simp only[go_sem];refine aoN (b.next+1) (jj lo).2 (jj a).2 (!decide (lo=[])) (!decide (a=[])) c c2 (jj lo).1 (jj a).1 A P (QU X) (QU Y) ag _ _ _ _ ?_ ?_ a4 M ?_ ?_
  ·rw[bA 9 ag ag,d 9 ag ag];simp only[go_sem]
  ·rw[bA 10 ag ag,a3]
  ·intro n Q ar;have T:uy (lo,a)=some ⟨(jj lo).1,(jj a).1, !decide (lo=[]), !decide (a=[])⟩:=by
    unfold uy;rw[ak];refine⟨Q.1,Q.2.1,fun h=>Q.2.2 ⟨?_,?_,h.2.2⟩⟩
    ·rw[aZ h.1];rfl
    ·rw[aZ h.2.1];rfl
   rw[T]at p;have r:∀t,t<26→t≠10→t≠11→rd t n=rd t a1:=fun t o h2 h3=>by
    rw[ar t aa,bA t aa h3]
   have cb:rd 6 n=v:=by
    rw[r 6 ag ag ag,d 6 ag ag];simp only[go_sem,f6]
   have cd:rd 9 n=.ptr (b.next+1) 0:=by
    rw[r 9 ag ag ag,d 9 ag ag];simp only[go_sem]
   have b1:rd 0 n=ah (f:Int):=by
    rw[r 0 ag ag ag,d 0 ag ag];simp only[go_sem,f0]
   have b2:rd 13 n=b4 cw l:=by
    rw[r 13 ag ag ag,d 13 ag ag];simp only[go_sem,ac]
   have b':rd 14 n=ah (l.length:Int):=by
    rw[r 14 ag ag ag,d 14 ag ag];simp only[go_sem,K]
   have ca:rd 15 n=ah (i:Int):=by
    rw[r 15 ag ag ag,d 15 ag ag];simp only[go_sem,L]
   have be:=fun H j=>A.di (H:=H) (H2:=j)
   have bi:=fun H j=>P.di (H:=H) (H2:=j)
   obtain⟨D,E,F,G,rfl,o1⟩:=A.len;obtain⟨I,J,d20,d3,rfl,o2⟩:=P.len;have ch:cG [D,E,F,G,I,J,d20,d3,.bool (!decide (lo=[])),.bool (!decide (a=[]))]=true:=by
    rw[rj]at o1 o2⊢;intro x u;rw[show [D,E,F,G,I,J,d20,d3,V.bool (!decide (lo=[])),V.bool (!decide (a=[]))]=[D,E,F,G]++([I,J,d20,d3]++[V.bool (!decide (lo=[])),V.bool (!decide (a=[]))])from rfl]at u;rcases gI.1 u with h|h
    ·exact o1 x h
    ·rcases gI.1 h with h|h
     ·exact o2 x h
     ·rcases g7.1 h with h|h
      ·rw[h];rfl
      ·rw[dj.1 h];rfl
   simp only[eS,eI]at M;have bj:aI Z 10 v w g:=R.low cf aa;simp only[go_sem,QO,cb,cd,M];refine gW (bytes:=136) bj rfl ag ch ⟨aa,ag⟩ fun v2 H4 g2 q1 db dd df=>?_
   have w1:aC .i64 ((i:Int)+1)=((i+1:Nat):Int):=by rw[aH _ aa];rfl
   simp only[go_sem,W8,ca,w1];refine⟨l.length-(i+1),aa,i+1,v2,g2,_,m++[⟨(jj lo).1,(jj a).1, !decide (lo=[]), !decide (a=[])⟩],rfl,aa,?_,?_,?_,?_,?_,q1,?_,?_,?_,?_⟩
   iterate 5 simp only[go_sem,b1,b2,b']
   ·intro B C;rw[qL];refine zm (u B C) ?_;simp only[bC,fG];exact zm (be B C) (zm (bi B C) (cD.refl _))
   ·rw[aS,N];rfl
   ·rw[aS,W];show _+10=_;omega
   ·rw[p,Option.map_map];congr 1;funext z;simp
  ·intro n bb ar a5 a6;have T:uy (lo,a)=none:=by
    unfold uy;rw[aj];intro h;refine bb ⟨h.1,h.2.1,fun hh=>h.2.2 ⟨fun e=>?_,fun e=>?_,hh.2.2⟩⟩
    ·have o:=hh.1;simp only at e;rw[bk e]at o;cases o
    ·have o:=hh.2.1;simp only at e;rw[bk e]at o;cases o
   rw[T]at p;have S:s0 f l=.az [c6 [],aD]:=by unfold s0;rw[p];rfl
   simp only[go_sem,a5,a6];rw[S];exact⟨_,.az (.cons .fK (.cons (.same _) .nil)),.az (.cons (lq []) (.cons (.bool _) .nil)),rfl⟩
 ·have bo:i=l.length:=aa;subst bo;have O:decide (((l.length:Nat):Int)<((l.length:Nat):Int))=false:=aZ aa;rw[List.drop_eq_nil_of_le (aE _),aoU]at p;have S:s0 f l=.az [c6 m,.bool (decide (m.length=f))]:=by
   unfold s0;rw[p];simp
  have am:=R.len ag;rw[W,uW _ ag]at am;have bd:decide (((l.length:Nat):Int)=(f:Int))=decide (m.length=f):=decide_eq_decide.2 (by rw[N];omega);simp only[go_sem,K4,Xa,f0,f6,K,L,O,am,bd];rw[S];exact⟨_,.az (.cons (oB l8 ag R (u _ _) (fun _ _ _=>kN) (by rw[W,N])) (.cons (.same _) .nil)),.az (.cons (lq m) (.cons (.bool _) .nil)),rfl⟩
def SA:aP:=(.bN [ex 11 (cz none 10 (rd 7) (rd 9)),ex 12 (bp true 10 (rd 11)),ex 5 (alloc [aD,.an,aD,.an,aD,.an,aD,.an,aD,aD]),bE (st 10 (rd 5) (rd 12))])
def SB:aP:=(.bN [ex 6 (alloc [(.str []),(.str [])])])
def Db:aP:=(.seq (.bN [ex 13 (fa 8 (rd 5)),ex 14 (bp false 1 (rd 13))]) (.cond (rd 14) (.bN [ex 15 (fa 0 (rd 5)),ex 16 (bp true 4 (rd 15)),ex 17 (cm 22 [(rd 16)]),ex 18 (fa 0 (rd 6)),bE (st 1 (rd 18) (rd 17))]) .skip))
def Dc:aP:=(.seq (.bN [ex 19 (fa 9 (rd 5)),ex 20 (bp false 1 (rd 19))]) (.cond (rd 20) (.bN [ex 21 (fa 4 (rd 5)),ex 22 (bp true 4 (rd 21)),ex 23 (cm 22 [(rd 22)]),ex 24 (fa 1 (rd 6)),bE (st 1 (rd 24) (rd 23))]) .skip))
def SC:aP:=(.bN [ex 25 (fa 0 (rd 3)),ex 26 (bp false 1 (rd 25)),ex 27 (bp true 2 (rd 6)),ex 28 (c8 1 [(0,2)] [(.str []),(.str [])] [(rd 27)]),ex 29 (ap 2 32 (rd 26) (rd 28)),ex 30 (fa 0 (rd 3)),bE (st 1 (rd 30) (rd 29))])
theorem TX:(pc 12 1)=(.seq (.block 1 (.seq SA (.seq SB (.seq Db (.seq Dc SC))))) (pc 12 0)):=V4
def eE(s:cc):dH:=(if s.hl then bh s.lo else [],if s.hh then bh s.hi else [])
def iK(k:Nat)(s:cc):Prop:=a_ k s.lo∧a_ k s.hi
theorem nE(s:dH):(cw s).length=2:=rfl
theorem arM(s:cc)(k:Nat)(o:k≤30000000)(p:iK k s)(a:List UInt8)(h b:Nat)(F:Fr)(H:af)(R:X→Fr→af→Prop)(K:Fr→af→Prop)(i:rd 5 F=.ptr h 0)(n:rd 6 F=.ptr b 0)(d:H.get h=.cells (ez s) 0)(j:H.get b=.cells [.str [],.str []] 0)
 (f:∀(g:Fr) (c:af),(∀t,t<13→rd t g=rd t F)→c.get b=.cells [.str (if s.hl then bh s.lo else []),.str []] 0→(∀y,y≠b→c.get y=H.get y)→c.next=H.next→K g c):
 bx Db (fq K R) F H:=by
 obtain⟨lo,hi,hl,hh⟩:=s;obtain⟨l,v⟩:=p;simp only at l v f;have m:=uH lo l o;simp only[ez,aV,eS,eI]at d;unfold bw aV at m;cases hl with
 |false=>
  simp only[go_sem,Db,i,d];refine f _ _ ?_ j (fun _ _=>rfl) rfl;intro t q;simp(disch:=omega)only[go_sem,aj]
 |true=>
  simp only[go_sem,Db,i,d];refine use m ?_;simp only[go_sem,n,j];refine f _ _ ?_ ?_ ?_ ?_
  ·intro t q;simp(disch:=omega)only[go_sem,aj]
  ·simp only[go_sem]
  ·intro y r;have u:¬b=y:=fun e=>r e.symm
   simp only[go_sem,aj u]
  ·simp only[go_sem]
theorem arN(s:cc)(k:Nat)(o:k≤30000000)(p:iK k s)(a:List UInt8)(h b:Nat)(F:Fr)(H:af)(R:X→Fr→af→Prop)(K:Fr→af→Prop)(i:rd 5 F=.ptr h 0)(n:rd 6 F=.ptr b 0)(d:H.get h=.cells (ez s) 0)(j:H.get b=.cells [.str a,.str []] 0)
 (f:∀(g:Fr) (c:af),(∀t,t<13→rd t g=rd t F)→c.get b=.cells [.str a,.str (if s.hh then bh s.hi else [])] 0→(∀y,y≠b→c.get y=H.get y)→c.next=H.next→K g c):
 bx Dc (fq K R) F H:=by
 obtain⟨lo,hi,hl,hh⟩:=s;obtain⟨v,l⟩:=p;simp only at v l f;have m:=uH hi l o;simp only[ez,aV,eS,eI]at d;unfold bw aV at m;cases hh with
 |false=>
  simp only[go_sem,Dc,i,d];refine f _ _ ?_ j (fun _ _=>rfl) rfl;intro t q;simp(disch:=omega)only[go_sem,aj]
 |true=>
  simp only[go_sem,Dc,i,d];refine use m ?_;simp only[go_sem,n,j];refine f _ _ ?_ ?_ ?_ ?_
  ·intro t q;simp(disch:=omega)only[go_sem,aj]
  ·simp only[go_sem]
  ·intro y r;have u:¬b=y:=fun e=>r e.symm
   simp only[go_sem,aj u]
  ·simp only[go_sem]
theorem ar_(l:List cc)(k:Nat)(K:k≤30000000)(hl:l.length≤1000)(hq:∀s∈l,iK k s):aW 12 [c6 l] (ij (l.map eE)):=by
 refine fE (.cons (lq l) .nil) (aT xG ?_);simp only[go_sem,d12,V8,V7,c6];refine bH (fun m j c=>∃(i:Nat) (v:V) (g:Nat),m=l.length-i∧i≤l.length∧rd 2 j=.ptr 5 0∧rd 3 j=.ptr 6 0∧rd 7 j=b4 ez l∧rd 8 j=ah (l.length:Int)∧rd 9 j=ah (i:Int)∧c.get 5=.cells [.an] 0∧c.get 6=.cells [v] 0∧7≤c.next∧aI c 2 v (bC cw ((l.take i).map eE)) g) l.length ⟨0,.an,0,rfl,bQ _,?_,?_,?_,?_,?_,?_,?_,?_,.nil⟩ ?_
 iterate 4 simp only[go_sem]
 ·simp only[go_sem];rfl
 iterate 2 simp only[go_sem]
 ·exact aE 7
 rintro m j c ⟨i,v,g,rfl,hi,F,G,H,q,r,u,I,ba,o⟩;rw[V5];obtain⟨bc,bd,a2⟩:=o.bg;by_cases ae:i<l.length
 ·obtain⟨s,A⟩:∃s,l[i]? =some s:=⟨l[i],cn ae⟩;have L:=hq s (eT A);have E:=ia l8 A;have x:decide ((i:Int)<((l.length:Nat):Int))=true:=bk aa;have w1:aC .i64 ((i:Int)+1)=((i+1:Nat):Int):=by rw[aH _ aa];rfl
  have B:=hG cw nE ((l.take i).map eE);rw[g5,dD,m5 hi]at B;have a6:∀a b:List UInt8,cG [V.str a,.str b]=true:=fun _ _=>rfl
  simp only[ez,aV,eS,eI]at E;simp(disch:=omega)only[go_sem,K3,TX,SA,SB,H,q,r,x,ff,bJ,E];refine arM s k K L [] c.next (c.next+1) _ _ _ _ ?_ ?_ ?_ ?_ ?_
  iterate 2 simp only[go_sem]
  ·simp(disch:=omega)only[go_sem,aj];rfl
  ·simp(disch:=omega)only[go_sem]
  intro P p d R J al;have a1:∀y,y<c.next→p.get y=c.get y:=fun y M=>by
   rw[J y aa];simp(disch:=omega)only[go_sem,aj]
  have am:p.next=c.next+2:=by rw[al];simp only[go_sem]
  have T:p.get c.next=.cells (ez s) 0:=by
   rw[J _ aa];simp(disch:=omega)only[go_sem,aj];rfl
  simp only[go_sem];refine arN s k K L _ c.next (c.next+1) _ _ _ _ ?_ ?_ T R ?_
  ·rw[d 5 ag];simp only[go_sem]
  ·rw[d 6 ag];simp only[go_sem]
  intro f n bA S ab ap;have C:∀y,y<c.next→n.get y=c.get y:=fun y M=>by rw[ab y aa,a1 y M]
  have kk:∀t,t<13→rd t f=rd t P:=bA;have U:rd 2 f=.ptr 5 0:=by rw[bA 2 ag,d 2 ag];simp only[go_sem,F]
  have w:rd 3 f=.ptr 6 0:=by rw[bA 3 ag,d 3 ag];simp only[go_sem,G]
  have W:rd 6 f=.ptr (c.next+1) 0:=by rw[bA 6 ag,d 6 ag];simp only[go_sem]
  have X:rd 7 f=b4 ez l:=by rw[bA 7 ag,d 7 ag];simp only[go_sem,H]
  have Y:rd 8 f=ah (l.length:Int):=by rw[bA 8 ag,d 8 ag];simp only[go_sem,q]
  have Z:rd 9 f=ah (i:Int):=by rw[bA 9 ag,d 9 ag];simp only[go_sem,r]
  have vt:n.get 6=.cells [v] 0:=by rw[C 6 aa,I]
  have vr:n.get 5=.cells [.an] 0:=by rw[C 5 aa,u]
  have z:=o.low C aa;simp only[go_sem,SC,w,W,S,vt];refine gW (bytes:=32) z rfl ag (a6 _ _) ⟨aa,ag⟩ fun v2 D Q N be O bi=>?_
  have ar:g≠6:=by
   rcases z.ne vt with h|h
   ·omega
   ·exact fun e=>h e.symm
  have aw:g≠5:=by
   rcases z.ne vr with h|h
   ·omega
   ·exact fun e=>h e.symm
  have Ou:D.get 6=.cells [v] 0:=by rw[O 6 aa (.inr (fun e=>ar e.symm)),vt]
  have ahA:D.get 5=.cells [.an] 0:=by rw[O 5 aa (.inr (fun e=>aw e.symm)),vr]
  obtain⟨a3,a4,a5⟩:=N.bg;have a':n.next=c.next+2:=by rw[ap,am]
  have a9:¬(6=5):=ag;simp only[go_sem,V3,w,Ou,a3,a4,a5,Z,w1];refine⟨l.length-(i+1),aa,i+1,v2,Q,rfl,aa,?_,?_,?_,?_,?_,?_,?_,?_,?_⟩
  iterate 7 simp only[go_sem,U,w,X,Y,ahA]
  ·simp only[go_sem];omega
  ·refine aI.set ?_ Ou _;obtain⟨ac,e⟩:=fN.1 A;rw[kQ ac,e,List.map_append,qL];simpa [bC,cw,eE]using N
 ·have ad:i=l.length:=aa;subst ad;have x:decide (((l.length:Nat):Int)<((l.length:Nat):Int))=false:=aZ aa;rw[b_ (aE _)]at o;have B:=hG cw nE (l.map eE);simp only[go_sem,K3,V6,F,G,q,r,x,u,I,a2];refine⟨_,.agg (.cons (oB nE ag (o.set u _) (cD.refl _) (fun _ _ _=>kN) B) .nil),pe _,rfl⟩
abbrev AG:=Rat×Rat
def qB(s:AG):List V:=aV s.1++aV s.2
theorem Gd(s:AG):(qB s).length=8:=rfl
theorem NX(s:AG):bY (qB s):=lu (pg _) (pg _)
def x9(s:cc):AG:=(s.lo,s.hi)
def vZ(s:cc):Bool:=s.hl&&s.hh
def wY(l:List cc):V:=if l.all vZ then .az [b4 qB (l.map x9),bO]else .az [b4 qB [],aD]
theorem J3(l:List cc)(hl:l.length≤1000):aW 20 [c6 l] (wY l):=by
 refine fE (.cons (lq l) .nil) (aT akm ?_);simp only[go_sem,d20,Zi,Zh,c6];refine bH (fun m a k=>∃(i:Nat) (v:V) (g:Nat),m=l.length-i∧i≤l.length∧rd 4 a=v∧rd 7 a=b4 ez l∧rd 8 a=ah (l.length:Int)∧rd 9 a=ah (i:Int)∧(l.take i).all vZ=true∧aI k 8 v (bC qB ((l.take i).map x9)) g) l.length ⟨0,.an,0,rfl,bQ _,?_,?_,?_,?_,rfl,.nil⟩ ?_
 iterate 3 simp only[go_sem]
 ·simp only[go_sem];rfl
 rintro m a k ⟨i,v,g,rfl,hi,w,j,b,c,n,o⟩;rw[Zf];by_cases I:i<l.length
 ·obtain⟨s,q⟩:∃s,l[i]? =some s:=⟨l[i],cn I⟩;have f:=ia l8 q;have d:decide ((i:Int)<((l.length:Nat):Int))=true:=bk aa;have O:aC .i64 ((i:Int)+1)=((i+1:Nat):Int):=by rw[aH _ aa];rfl
  have r:=hG qB Gd ((l.take i).map x9);rw[g5,dD,m5 hi]at r;obtain⟨F,e⟩:=fN.1 q;have z:l.take (i+1)=l.take i++[s]:=by rw[kQ F,e]
  have J:s∈l:=eT q;have t:vZ s=false→wY l=.az [b4 qB [],aD]:=fun h=>by
   unfold wY;rw[aj];intro E;have:=sg.1 E s J;rw[h]at this;cases this
  have x:∀ {H A:af},∃u,bR H A (.az [.an,aD]) u∧bz u∧u=.az [b4 qB [],aD]:=⟨_,.az (.cons .fK (.cons (.same _) .nil)),.az (.cons (iN NX []) (.cons (.bool _) .nil)),rfl⟩;obtain⟨lo,p,B,C⟩:=s;simp only[ez,aV,eS,eI]at f;have L:cG [V.bool (decide (lo.num<0)),mag (aN lo.num.natAbs),aD,mag (aN (dd lo)),.bool (decide (p.num<0)),mag (aN p.num.natAbs),aD,mag (aN (dd p))]=true:=rfl;cases B with
  |false=>
   rw[t rfl];simp(disch:=omega)only[go_sem,Bb,EC,j,b,c,d,ff,bJ,f,iY];exact x
  |true=>
   cases C with
   |false=>
    rw[t rfl];simp(disch:=omega)only[go_sem,Bb,EC,j,b,c,d,ff,bJ,f,iY,gG];exact x
   |true=>
    simp(disch:=omega)only[go_sem,Bb,EC,w,j,b,c,d,ff,bJ,f,gG];refine gW (H:=(k.push _).set _ _) (bytes:=128) (aI.low o ?_ ?_) rfl ag L ⟨aa,ag⟩ fun N P D M R S T=>?_
    ·intro y Q;simp(disch:=omega)only[go_sem,aj]
    ·simp only[go_sem];omega
    simp only[go_sem,Ze,c,O];refine⟨l.length-(i+1),aa,i+1,N,D,rfl,aa,?_,?_,?_,?_,?_,?_⟩
    iterate 4 simp only[go_sem,j,b]
    ·rw[z,List.all_append,n];rfl
    ·rw[z,List.map_append,qL];simpa [bC,qB,aV,x9]using M
 ·have G:i=l.length:=aa;subst G;have d:decide (((l.length:Nat):Int)<((l.length:Nat):Int))=false:=aZ aa;rw[b_ (aE _)]at o n;have r:=hG qB Gd (l.map x9);have K:wY l=.az [b4 qB (l.map x9),bO]:=ak n;simp only[go_sem,Bb,Zg,w,b,c,d];rw[K];exact⟨_,.az (.cons (oB Gd ag o (cD.refl _) (fun _ _ _=>kN) r) (.cons (.same _) .nil)),.az (.cons (iN NX _) (.cons (.bool _) .nil)),rfl⟩
def IJ(l:List Int)(n:Nat)(b:Bool)(k:Nat)(F:Fr)(H:af):Prop:=∃(j i:Nat) (v:V) (g:Nat) (a:List cc),k=n-j∧j≤n∧i≤l.length∧rd 0 F=.ptr 5 0∧rd 1 F=ah (n:Int)∧rd 2 F=.bool b∧rd 7 F=v∧rd 8 F=ah (j:Int)∧H.get 5=.cells (cB l i) 0∧6≤H.next∧aI H 10 v (bC ez a) g∧a.length=j∧∀s∈a,iK 9 s∧s.lo<s.hi
theorem J4(l:List Int)(hl:l.length≤400)(hz:hL l)(n:Nat)(hn:n≤100)(y:Bool)(j:Nat)(hj:j<n)(v:V)(g:Nat)(a:List cc)(Q:a.length=j)(S:∀s∈a,iK 9 s∧s.lo<s.hi)(z:Int)(a9: -3≤z∧z≤3)(c d:Bool)(i:Nat)(hi:i≤l.length)(F:Fr)(H:af)(b:Nat)(hb:6≤b)(a5:b<H.next)(B:rd 0 F=.ptr 5 0)(K:rd 1 F=ah (n:Int))(L:rd 2 F=.bool y)(M:rd 7 F=v)(N:rd 8 F=ah (j:Int))(C:rd 9 F=.ptr b 0)(D:H.get 5=.cells (cB l i) 0)(U:aI H 10 v (bC ez a) g)(cM:H.get b=.cells (aV (z:Rat)++(kV++[.bool c,.bool d])) 0)(R:X→Fr→af→Prop)(P:∀w x k,k<n-j→IJ l n y k w x→R .norm w x):
 bx (.seq (.bN [ex 30 (fa 0 (rd 9)),ex 31 (bp true 4 (rd 30)),ex 32 (mv (rd 0)),ex 33 (cm 53 [(rd 32)]),re 31 (bp true 4 (rd 30)),ex 34 (cm 37 [(rd 31),(rd 33)]),ex 35 (fa 4 (rd 9)),bE (st 4 (rd 35) (rd 34))]) (.bN [ex 36 (mv (rd 7)),ex 37 (bp true 10 (rd 9)),ex 38 (c8 1 [(0,10)] [aD,.an,aD,.an,aD,.an,aD,.an,aD,aD] [(rd 37)]),ex 39 (ap 10 136 (rd 36) (rd 38)),ex 7 (bS (rd 39))])) (iT 1 (fq (bx (pc 13 0) R) R)) F H:=by
 have m:¬5=b:=aa;have T:¬b=5:=aa;simp only[aV,kV,eS,eI]at cM;simp only[go_sem,B,C,cM];refine eX (aoe l hl hz) ag hi D ?_;rintro _ f ⟨q,G,I,rfl⟩ W;have u:a_ 4 (z:Rat):=a_.ofInt aa ag;have E:=xY (z:Rat) q u G ag;have w1:aC .i64 ((j:Int)+1)=((j+1:Nat):Int):=by rw[aH _ aa];rfl
 have a8:=hG ez l8 a;have Y:(z:Rat)<(z:Rat)+q:=by
  have:0<q:=by
   have h1:=Rat.num_nonneg.1 (Int.le_of_lt I);have h2:q≠0:=fun e=>by subst e;exact absurd I ag
   grind
  grind
 generalize Z:(z:Rat)+q=r at*
 have ab:a_ 9 r:=by rw[←Z];exact u.add G
 unfold bw aV at E⊢;simp only[go_sem,m,cM,true_and];refine use E ?_;have ae:∀p q:Rat,cG [V.bool (decide (p.num<0)),mag (aN p.num.natAbs),aD,mag (aN (dd p)),.bool (decide (q.num<0)),mag (aN q.num.natAbs),aD,mag (aN (dd q)),.bool c,.bool d]=true:=fun _ _=>rfl
 have t:=(U.set D (.cells (cB l f) 0)).set (y:=b) (by rw[af.aK,aj m];exact cM) (.cells (ez ⟨(z:Rat),r,c,d⟩) 0);simp only[ez,aV,eS,eI]at t;simp only[go_sem,M,C,m,cM];refine gW (bytes:=136) t rfl ag (ae _ _) ⟨aa,ag⟩ fun v2 H4 O q1 a' J am=>?_
 simp only[jh]at J am;have A:∀o:cP,((H.set 5 (.cells (cB l f) 0)).set b o).get 5=.cells (cB l f) 0:=fun o=>by
  rw[af.aK,aj T,af.aK,ak rfl]
 have ar:=(J 5 aa (t.ne (A _))).trans (A _);simp only[go_sem,V9,N,w1];refine P _ _ (n-(j+1)) aa ⟨j+1,f,v2,O,a++[⟨(z:Rat),r,c,d⟩],rfl,aa,W,?_,?_,?_,?_,?_,ar,aa,?_,?_,?_⟩
 iterate 5 simp only[go_sem,B,K,L]
 ·rw[qL];simpa [bC,ez,aV]using q1
 ·rw[aS,Q];rfl
 ·intro s hs;rcases gI.1 hs with h|h
  ·exact S s h
  ·rw[dj.1 h];exact⟨⟨u.mono ag,ab⟩,Y⟩
def y5:aP:=(.bN [ex 15 (mv (rd 0)),ex 16 (cm 52 [(rd 15),(kc (ah 3))]),ex 17 (mv (rd 2)),ex 18 (mv (rd 17)),bF 18 false 19 (mv (rd 0)),bF 18 false 20 (cm 11 [(rd 19),(kc (ah 4))]),bF 18 false 21 (bi .gtr (rd 20) (kc (ah 0))),ex 22 (pick (rd 18) (kc bO) (rd 21)),ex 23 (mv (rd 2)),ex 24 (mv (rd 23)),bF 24 false 25 (mv (rd 0)),bF 24 false 26 (cm 11 [(rd 25),(kc (ah 4))]),bF 24 false 27 (bi .gtr (rd 26) (kc (ah 0))),ex 28 (pick (rd 24) (kc bO) (rd 27)),ex 29 (dI [(0,4),(8,1),(9,1)] [aD,.an,aD,.an,aD,.an,aD,.an,aD,aD] [(rd 16),(rd 22),(rd 28)]),ex 9 (alloc [aD,.an,aD,.an,aD,.an,aD,.an,aD,aD]),bE (st 10 (rd 9) (rd 29))])
def vc:aP:=(.bN [ex 30 (fa 0 (rd 9)),ex 31 (bp true 4 (rd 30)),ex 32 (mv (rd 0)),ex 33 (cm 53 [(rd 32)]),re 31 (bp true 4 (rd 30)),ex 34 (cm 37 [(rd 31),(rd 33)]),ex 35 (fa 4 (rd 9)),bE (st 4 (rd 35) (rd 34))])
def TS:aP:=(.bN [ex 36 (mv (rd 7)),ex 37 (bp true 10 (rd 9)),ex 38 (c8 1 [(0,10)] [aD,.an,aD,.an,aD,.an,aD,.an,aD,aD] [(rd 37)]),ex 39 (ap 10 136 (rd 36) (rd 38)),ex 7 (bS (rd 39))])
theorem J_:(pc 13 1)=(.seq (.block 1 (.seq y5 (.seq vc TS))) (pc 13 0)):=V_
theorem ahr{v:V}{l:List cc}(h:aI c 10 v (bC ez l) a)(b:∀y,a≠0→c.get y=.cells (bC ez l) a→H.get y=.none):bR c H v (c6 l):=
 oB l8 ag h (cD.refl _) b (hG ez l8 l)
theorem TN(l:List Int)(hl:l.length≤400)(c:hL l)(n:Nat)(I:n≤100)(r:Bool):kT l 13 [ah (n:Int),.bool r] fun v=>∃s:List cc,s.length=n∧(∀x∈s,iK 9 x∧x.lo<x.hi)∧v=c6 s:=by
 refine nD (.cons (.int _ _) (.cons (.bool _) .nil)) fun Q N=>aT zu ?_
 simp only[go_sem,d13,Wd,Wc];refine bH (IJ l n r) n ⟨0,Q,.an,0,[],rfl,bQ _,N,?_,?_,?_,?_,?_,?_,?_,.nil,rfl,fun _ h=>by cases h⟩ ?_
 iterate 4 simp only[go_sem]
 ·simp only[go_sem];rfl
 ·rw[lT]
 ·exact aE 6
 rintro k X o ⟨j,i,v,g,q,rfl,Y,hi,a,d,f,t,m,b,ON,A,G,w⟩;rw[Wa];have ad:¬o.next=5:=aa
 have ae:¬5=o.next:=aa
 by_cases H:j<n
 ·have p:decide ((j:Int)<(n:Int))=true:=bk aa;cases r with
  |true=>
   simp only[go_sem,J_,y5,a,d,m,p];refine eX (Iy l hl c 3 ag) ag hi b ?_;rintro _ D ⟨z,V,W,rfl⟩ B;unfold bw aV;simp only[go_sem,f];refine J4 l hl c n I true j H v g q G w z ⟨aa,aa⟩ true true D B _ _ o.next ON ?_ ?_ ?_ ?_ ?_ ?_ ?_ ?_ ?_ ?_ _ ?_
   ·simp only[go_sem];omega
   iterate 6 simp only[go_sem,a,d,f,t,m]
   ·simp(disch:=assumption)only[go_sem,aj]
   ·refine aI.set ((A.set b _).push _) (cs:=kV++(kV++[aD,aD])) ?_ _;simp only[go_sem];rfl
   ·simp(disch:=assumption)only[go_sem];rfl
   ·intro J K E C u;exact⟨E,C,u⟩
  |false=>
   simp only[go_sem,J_,y5,a,d,m,p];refine eX (Iy l hl c 3 ag) ag hi b ?_;rintro _ D ⟨z,V,W,rfl⟩ B;unfold bw aV;simp only[go_sem,a,f];refine eX (lE l hl c 4 ag) ag B ?_ ?_
   ·rw[af.aK,ak rfl]
   rintro _ R ⟨T,ab,rfl⟩ O;simp only[go_sem,a,f];refine eX (lE l hl c 4 ag) ag O ?_ ?_
   ·rw[af.aK,ak rfl]
   rintro _ S ⟨U,ac,rfl⟩ P;simp only[go_sem];refine J4 l hl c n I false j H v g q G w z ⟨aa,aa⟩ (decide (0<(T:Int))) (decide (0<(U:Int))) S P _ _ o.next ON ?_ ?_ ?_ ?_ ?_ ?_ ?_ ?_ ?_ ?_ _ ?_
   ·simp only[go_sem];omega
   iterate 6 simp only[go_sem,a,d,f,t,m]
   ·simp(disch:=assumption)only[go_sem,aj]
   ·refine aI.set ((((A.set b _).set (cs:=cB l D) (by rw[af.aK,ak rfl]) _).set (cs:=cB l R) (by rw[af.aK,ak rfl]) _).push _) (cs:=kV++(kV++[aD,aD])) ?_ _;simp only[go_sem];rfl
   ·simp(disch:=assumption)only[go_sem];rfl
   ·intro J K E C u;exact⟨E,C,u⟩
 ·have Z:j=n:=aa;have p:decide ((j:Int)<(n:Int))=false:=aZ aa;simp only[go_sem,Wb,d,t,m,p];refine⟨i,_,hi,b,ahr A ?_,lq _,q,aa,w,rfl⟩;intro y M F;rw[af.kE,aj];intro e;rw[e,b]at F;injection F with _ L
  exact M L.symm
section
open Go.au Tryz
set_option maxRecDepth 100000
attribute [local irreducible] rd kc ex bE bF re rg mv bS pick alloc box bi bs be bp st fa cz cN dI c8 dN eB eA ms dx ek ej dY mx mn dX ap ee cJ dZ d_ cm ec ext er neg Go.au.not en ei ep eo ey eu ef ew dR dP u8
def Y0:=ai 18 f18 0
def Y1:=ai 18 f18 1
def Lx:=ai 18 f18 2
def Y2:=ai 18 f18 3
def Y3:=ai 18 f18 4
def Y4:=ai 18 f18 5
def Y5:=ai 18 f18 6
def d18:=aU 18 f18
def B1:=aR f18 18
def LC:=ai 225 f225 0
def LD:=ai 225 f225 1
def ED:=ai 225 f225 2
def EE:=ai 225 f225 3
def Zy:=ai 225 f225 4
def Zz:=ai 225 f225 5
def LG:=ai 225 f225 6
def LH:=ai 225 f225 7
def LI:=ai 225 f225 8
def ZA:=ai 225 f225 9
def Zr:=ai 225 f225 10
def LF:=ai 225 f225 11
def Zs:=ai 225 f225 12
def Zt:=ai 225 f225 13
def Zu:=ai 225 f225 14
def Zv:=ai 225 f225 15
def Zw:=ai 225 f225 16
def Zx:=ai 225 f225 17
def d225:=aU 225 f225
def akr:=aR f225 225
def LJ:=ai 226 f226 0
def LK:=ai 226 f226 1
def LL:=ai 226 f226 2
def d226:=aU 226 f226
def aks:=aR f226 226
end
def AB:List V:=[ah 0,.an]
theorem ahO(n:Nat)(j:n≤1073741824)(H:af):c7 226 [.an,ah (n:Int)] H fun v c=>n=0∧v=.an∧c=H∨0<n∧v=.slice H.next 0 0 (.least n)∧c=H.push (.cells (rep AB n) 0):=by
 refine aT aks ?_;have d:decide ((n:Int)<0)=false:=aZ aa;have e:y8 V.an=some (.val (ah 0)):=rfl;have hl:cT V.an=some (.val (ah 0)):=rfl;have g:aC .i64 ((0:Int)-0)=0:=rfl;have f:aC .i64 ((n:Int)-0)=(n:Int):=by rw[aH _ aa];omega
 by_cases i:n=0
 ·subst i;have a:decide ((0:Int)<((0:Nat):Int))=false:=rfl;simp only[go_sem,d226,LL,LK,LJ,d,e,hl,g,f,a];exact .inl (by refine⟨?_,?_,?_⟩<;>first|trivial|rfl)
 ·have a:decide ((0:Int)<(n:Int))=true:=bk aa;have k:slice3 (j7 2) false true false [.an,ah 0]=some (.val .an):=rfl;have h:=Tv (bytes:=32) (zs:=AB) (k:=.i64) (n:=n) ⟨aa,j,ag⟩;have l:=fun b=>ap8 (s:=2) (b:=b) (n:=n) (c:=n) (k:=.i64) (h:=0) ⟨ag,aa⟩
  unfold AB at h;simp only[go_sem,d226,LL,LK,LJ,d,e,hl,g,f,a,k,h,l];exact .inr (by refine⟨aa,?_,?_⟩<;>first|trivial|rfl)
variable{m:Fr}{i:Option Nat}{e:Fr→af→Prop}{s:V}
theorem Bt{bytes:Nat}{v:V}(o:∃d,s=.row 0 d)(l:v=.an∨∃b n g,v=.slice b 0 n (.least g))(k:e (put m i v) c):gj i e m (fH a bytes [v,s] c):=by
 obtain⟨d,rfl⟩:=o;have j:dS c a 0 (.row 0 d)=some []:=by
  show cq d (0*a)=_;rw[jb,e4];simp
 have h:fH a bytes [v,.row 0 d] c=some (v,c):=by
  show ao (some 0) (fun n=>ao (dS c a n (.row 0 d)) fun f=>jX a bytes v n f c)=_;show ao (dS c a 0 (.row 0 d)) (fun f=>jX a bytes v 0 f c)=_;rw[j];rcases l with rfl|⟨b,n,g,rfl⟩<;>rfl
 rw[h];exact k
theorem N8(h:b.length=a*2):dS c 2 a (.row a b)=some b:=by
 show cq b (a*2)=_;rw[e4,ak aa,b_ aa]
theorem Ui(a c j d:List V)(n m N:Nat)(t:N=n+m)(q:a.length=n*2)(u:c.length=m*2)(O:j.length=n*2)(P:d.length=m*2)(ab:cG a=true)(ac:cG c=true)(ae:n≤1000∧m≤1000)(F:Fr)(H:af)(R:X→Fr→af→Prop)
 (I:rd 25 F=.row 2 [.row n a,.row m c]) (J:rd 26 F=ah 2) (K:rd 27 F=ah 0) (L:rd 6 F=.slice 5 0 0 (.least N)) (M:H.get 5=.cells (j++d) 0)
 (Q:∀(r:Fr) (s:af),rd 6 r=.slice 5 0 N (.least N)→s.get 5=.cells (a++c) 0→R (.exit 2) r s):bx (.loop (pc 155 7)) R F H:=by
 have U:dJ none 1 [.row 2 [.row n a,.row m c],ah 0]=some (.val (.cY [.row n a,.row m c] 0)):=kh ⟨ag,ag⟩;have W:dJ none 1 [.row 2 [.row n a,.row m c],ah 1]=some (.val (.cY [.row n a,.row m c] 1)):=kh ⟨ag,ag⟩;have Y:cK [V.row n a,.row m c] 0=some (.row n a):=rfl;have Z:cK [V.row n a,.row m c] 1=some (.row m c):=rfl;have C:decide ((0:Int)<2)=true:=rfl;have d12:decide ((1:Int)<2)=true:=rfl;have d22:decide ((2:Int)<2)=false:=rfl;have ad:aC .i64 ((0:Int)+1)=1:=rfl;have v:aC .i64 ((1:Int)+1)=2:=rfl;refine bH (fun k b f=>rd 25 b=.row 2 [.row n a,.row m c]∧rd 26 b=ah 2∧((k=2∧rd 27 b=ah 0∧rd 6 b=.slice 5 0 0 (.least N)∧f.get 5=.cells (j++d) 0)∨(k=1∧rd 27 b=ah 1∧rd 6 b=.slice 5 0 n (.least N)∧f.get 5=.cells (a++d) 0)∨(k=0∧rd 27 b=ah 2∧rd 6 b=.slice 5 0 N (.least N)∧f.get 5=.cells (a++c) 0))) 2 ⟨I,J,.inl ⟨rfl,K,L,M⟩⟩ ?_;rintro k b f ⟨l,g,⟨rfl,e,o,h⟩|⟨rfl,e,o,h⟩|⟨rfl,e,o,h⟩⟩
 ·have done:∀(i:Fr) (p:af),rd 25 i=.row 2 [.row n a,.row m c]→rd 26 i=ah 2→rd 27 i=ah 0→rd 6 i=.slice 5 0 n (.least N)→p.get 5=.cells (a++d) 0→bx (pc 155 4) (fun x F H=>fq (oY (fun k b f=>rd 25 b=.row 2 [.row n a,.row m c]∧rd 26 b=ah 2∧((k=2∧rd 27 b=ah 0∧rd 6 b=.slice 5 0 0 (.least N)∧f.get 5=.cells (j++d) 0)∨(k=1∧rd 27 b=ah 1∧rd 6 b=.slice 5 0 n (.least N)∧f.get 5=.cells (a++d) 0)∨(k=0∧rd 27 b=ah 2∧rd 6 b=.slice 5 0 N (.least N)∧f.get 5=.cells (a++c) 0))) 2) R x F H) i p:=by
   intro i p w y z B A;simp only[go_sem,zc,z,ad];refine⟨1,ag,?_,?_,.inr (.inl ⟨rfl,?_,?_,A⟩)⟩
   all_goals simp only[go_sem,w,y,B]
  simp only[go_sem,xb,w_,A_,l,g,e,U,Y,C,o];by_cases T:n=0
  ·subst T;have ex:a=[]:=oT aa;have D:j=[]:=oT aa;refine Bt ⟨_,rfl⟩ (.inr ⟨_,_,_,rfl⟩) ?_;simp only[go_sem];refine done _ _ ?_ ?_ ?_ ?_ (by rw[h,ex,D])
   all_goals simp only[go_sem,l,g,e]
  ·refine NC (xs:=[]) (ys:=j) (rest:=d) (by rw[h];rfl) rfl O rfl (N8 q) q aa ⟨aa,ag⟩ ab ?_ aa;simp only[go_sem];refine done _ _ ?_ ?_ ?_ ?_ (by rw[af.aK];exact ak rfl)
   all_goals simp only[go_sem,l,g,e]
 ·simp only[go_sem,xb,w_,A_,l,g,e,W,Z,d12,o];by_cases S:m=0
  ·subst S;have G:c=[]:=oT aa;have E:d=[]:=oT aa;refine Bt ⟨_,rfl⟩ (.inr ⟨_,_,_,rfl⟩) ?_;simp only[go_sem,zc,e,v];refine⟨0,ag,?_,?_,.inr (.inr ⟨rfl,?_,?_,by rw[h,G,E]⟩)⟩
   all_goals simp only[go_sem,l,g,t,cE]
  ·refine NC (rest:=[]) (by rw[fG];exact h) q P rfl (N8 u) u aa ⟨aa,ag⟩ ac ?_ aa;simp only[go_sem,zc,e,v];refine⟨0,ag,?_,?_,.inr (.inr ⟨rfl,?_,?_,by rw[af.aK,ak rfl,fG]⟩)⟩
   all_goals simp only[go_sem,l,g,t]
 ·simp only[go_sem,xb,w_,g,e,d22];refine Q _ _ ?_ h;simp only[go_sem,o]
theorem ap6(a b:List V)(n m N:Nat)(I:N=n+m)(J:n≤1000∧m≤1000)(F:Fr)(H:af)(R:X→Fr→af→Prop)
 (q:rd 0 F=.row 2 [.row n a,.row m b]) (u:rd 9 F=.row 2 [.row n a,.row m b]) (r:rd 10 F=ah 2) (s:rd 11 F=ah 0) (t:rd 3 F=ah 0)
 (v:∀h:Fr,rd 0 h=.row 2 [.row n a,.row m b]→rd 3 h=ah (N:Int)→R (.exit 0) h H):bx (.loop (pc 155 3)) R F H:=by
 have w:dJ none 1 [.row 2 [.row n a,.row m b],ah 0]=some (.val (.cY [.row n a,.row m b] 0)):=kh ⟨ag,ag⟩;have x:dJ none 1 [.row 2 [.row n a,.row m b],ah 1]=some (.val (.cY [.row n a,.row m b] 1)):=kh ⟨ag,ag⟩;have A:cK [V.row n a,.row m b] 0=some (.row n a):=rfl;have B:cK [V.row n a,.row m b] 1=some (.row m b):=rfl;have y:cT (V.row n a)=some (.val (ah (n:Int))):=rfl;have z:cT (V.row m b)=some (.val (ah (m:Int))):=rfl;have l:decide ((0:Int)<2)=true:=rfl;have d12:decide ((1:Int)<2)=true:=rfl;have d22:decide ((2:Int)<2)=false:=rfl;have C:aC .i64 ((0:Int)+1)=1:=rfl;have D:aC .i64 ((1:Int)+1)=2:=rfl;have E:aC .i64 ((0:Int)+(n:Int))=(n:Int):=by rw[aH _ aa];omega
 have G:aC .i64 ((n:Int)+(m:Int))=(N:Int):=by rw[aH _ aa];omega
 have p:decide ((n:Int)<0)=false:=aZ aa;have o:decide ((N:Int)<0)=false:=aZ aa;refine bH (fun k c j=>j=H∧rd 0 c=.row 2 [.row n a,.row m b]∧rd 9 c=.row 2 [.row n a,.row m b]∧rd 10 c=ah 2∧((k=2∧rd 11 c=ah 0∧rd 3 c=ah 0)∨(k=1∧rd 11 c=ah 1∧rd 3 c=ah (n:Int))∨(k=0∧rd 11 c=ah 2∧rd 3 c=ah (N:Int)))) 2 ⟨rfl,q,u,r,.inl ⟨rfl,s,t⟩⟩ ?_;rintro k c j ⟨rfl,i,g,d,⟨rfl,e,f⟩|⟨rfl,e,f⟩|⟨rfl,e,f⟩⟩
 ·simp only[go_sem,Et,Es,K8,K7,f,g,d,e,w,A,y,l,E,p,C];refine⟨1,ag,rfl,?_,?_,?_,.inr (.inl ⟨rfl,?_,?_⟩)⟩
  all_goals simp only[go_sem,i,g,d]
 ·simp only[go_sem,Et,Es,K8,K7,f,g,d,e,x,B,z,d12,G,o,D];refine⟨0,ag,rfl,?_,?_,?_,.inr (.inr ⟨rfl,?_,?_⟩)⟩
  all_goals simp only[go_sem,i,g,d]
 ·simp only[go_sem,Et,Es,d,e,d22];refine v _ ?_ ?_
  all_goals simp only[go_sem,i,f]
theorem UL(a b:List V)(n m:Nat)(B:a.length=n*2)(C:b.length=m*2)(p:bY a)(q:bY b)(H:cG a=true)(I:cG b=true)(s:n≤1000∧m≤1000):
 aW 155 [.row 2 [.row n a,.row m b]] (.row (n+m) (a++b)):=by
 refine fE (.cons (.row 2 (.cons (.row n p) (.cons (.row m q) .nil))) .nil) (aT ajY ?_);obtain⟨N,b7⟩:∃N,N=n+m:=⟨_,rfl⟩;rw[←b7];have j:cT (.row 2 [V.row n a,.row m b])=some (.val (ah 2)):=rfl;simp only[go_sem,d155,Xv,Xu,j];refine ap6 a b n m N b7 s _ _ _ ?_ ?_ ?_ ?_ ?_ ?_
 iterate 5 simp only[go_sem]
 intro L o v;simp only[go_sem,Xt,v];refine(ahO N aa _).mono ?_;rintro P M (⟨x,rfl,rfl⟩|⟨x,rfl,rfl⟩)
 ·obtain⟨rfl,rfl⟩:n=0∧m=0:=aa;have ex:a=[]:=oT aa;have u:b=[]:=oT aa;subst ex;subst u;have D:dJ none 1 [.row 2 [.row 0 [],.row 0 []],ah 0]=some (.val (.cY [.row 0 [],.row 0 []] 0)):=kh ⟨ag,ag⟩;have E:dJ none 1 [.row 2 [.row 0 [],.row 0 []],ah 1]=some (.val (.cY [.row 0 [],.row 0 []] 1)):=kh ⟨ag,ag⟩;have F:cK [V.row 0 [],.row 0 []] 0=some (.row 0 []):=rfl;have G:cK [V.row 0 [],.row 0 []] 1=some (.row 0 []):=rfl;have t:decide ((0:Int)<2)=true:=rfl;have d12:decide ((1:Int)<2)=true:=rfl;have d22:decide ((2:Int)<2)=false:=rfl;have J:aC .i64 ((0:Int)+1)=1:=rfl;have K:aC .i64 ((1:Int)+1)=2:=rfl;simp only[go_sem,K_,o,j];refine bH (fun k c l=>rd 25 c=.row 2 [.row 0 [],.row 0 []]∧rd 26 c=ah 2∧rd 6 c=.an∧((k=2∧rd 27 c=ah 0)∨(k=1∧rd 27 c=ah 1)∨(k=0∧rd 27 c=ah 2))) 2 ⟨?_,?_,?_,.inl ⟨rfl,?_⟩⟩ ?_
  iterate 4 simp only[go_sem]
  rintro k c l ⟨h,e,i,⟨rfl,d⟩|⟨rfl,d⟩|⟨rfl,d⟩⟩
  ·simp only[go_sem,xb,w_,A_,h,e,d,D,F,t,i];refine Bt ⟨_,rfl⟩ (.inl rfl) ?_;simp only[go_sem,zc,d,J];refine⟨1,ag,?_,?_,?_,.inr (.inl ⟨rfl,?_⟩)⟩
   all_goals simp only[go_sem,h,e]
  ·simp only[go_sem,xb,w_,A_,h,e,d,E,G,d12,i];refine Bt ⟨_,rfl⟩ (.inl rfl) ?_;simp only[go_sem,zc,d,K];refine⟨0,ag,?_,?_,?_,.inr (.inr ⟨rfl,?_⟩)⟩
   all_goals simp only[go_sem,h,e]
  ·simp only[go_sem,xb,w_,K9,e,d,d22,i];rw[b7];exact⟨_,.fK,.row 0 .nil,rfl⟩
 ·have O:(rep AB N).length=n*2+m*2:=by rw[z8];show N*2=_;omega
  obtain⟨f,g,r,z⟩:∃f g,rep AB N=f++g∧f.length=n*2:=⟨_,_,(p9 (n*2) _).symm,g6 aa⟩;have A:g.length=m*2:=by
   have:=congrArg ku r;rw[aS]at this;omega
  rw[r];simp only[go_sem,K_,o,j];refine Ui a b f g n m N b7 B C z A H I s _ _ _ ?_ ?_ ?_ ?_ ?_ ?_
  iterate 5 simp only[go_sem]
  ·intro c l w y;simp only[go_sem,K9,w];refine⟨_,.row (m:=N*2) (cs:=a++b) ?_ aa kN (cD.refl _),.row _ (lu p q),rfl⟩;rw[fJ y,c_,iC (by rw[aS];omega)]
theorem Ol{v:V}(e:aI c 1 v b h)(i:b.length=a)(f:∀y,h≠0→c.get y=.cells b h→H.get y=.none):bR c H v (.row a b):=by
 obtain⟨m,d,g⟩:=e.di (H2:=H) ag f (cD.refl _);have:m=a:=aa;rw[this]at d;exact d
theorem KF(f:Nat)(a:List V)(n:Nat)(e:0<n∧n≤1000)(hl:a.length=n)(b:bY a)(j:f=227∨f=228):aW f [.row n a] (.row n a):=by
 have d:∀t,ox false (.slice t) [.row n a,.an]=some (.val aD):=by
  intro t;obtain⟨m,k⟩:∃m,n=m+1:=⟨n-1,aa⟩;rw[k];rfl
 rcases j with rfl|rfl
 ·refine fE (.cons (.row n b) .nil) (aT akt ?_);simp only[go_sem,d227,ZC,ZB,d];refine xw (n:=n) (cs:=a) (by simp only[go_sem]) e.1 aa ag ⟨aa,ag⟩ fun w g c h i=>?_
  simp only[go_sem];exact⟨_,Ol c hl (fun _ _ _=>kN),.row n b,rfl⟩
 ·refine fE (.cons (.row n b) .nil) (aT aku ?_);simp only[go_sem,d228,ZE,ZD,d];refine xw (n:=n) (cs:=a) (by simp only[go_sem]) e.1 aa ag ⟨aa,ag⟩ fun w g c h i=>?_
  simp only[go_sem];exact⟨_,Ol c hl (fun _ _ _=>kN),.row n b,rfl⟩
theorem C8{q:Rat}(a:a_ 100 q):(bh q).length≤204:=by
 have d:=zg a.num;have e:=zg a.den;unfold bh;rw[aS,aS];have b:(if q.num<0 then [(45:UInt8)]else []).length≤1:=by split<;>simp
 have c:(if q.den=1 then []else(47:UInt8)::dec q.den).length≤102:=by
  split
  ·simp
  ·rw[cL];omega
 omega
theorem Hv(q:Rat)(a:a_ 100 q):c4 163 [.str (bh q)] (.az [c5 q,bO]):=by
 have h:=Hu (bh q) (by have:=C8 a;omega);rwa[Ck (pF q)]at h
structure I1 (n:Nat) (t:ax):Prop where
 q:a_ 100 t.1
 nz:t.1.num≠0
 len:t.2.length=n
 sum:t.2.sum≤24
theorem ao4(n:Nat)(E:n≤6)(t:ax)(b:I1 n t):c4 305 [ah (n:Int),.agg [.str (bh t.1),b6 t.2]] (.az [nT t,bO]):=by
 have r:=b.len;have o:bz (.az [nT t,bO]):=.az (.cons (FM t) (.cons (.bool _) .nil));refine dm (.cons (.int _ _) (.cons (.agg (.cons (.str _) (.cons (oy _) .nil))) .nil)) (aT ak1 ?_);have p:GT (cZ.push (.cells [.str (bh t.1),b6 t.2] 0)):=fB.push ag _;have e:GT ((cZ.push (.cells [.str (bh t.1),b6 t.2] 0)).push (.cells [ah 0,ah 0,ah 0,ah 0,ah 0,ah 0,aD,.an,aD,.an] 0)):=p.push (by show 5≤6;decide) _;simp only[go_sem,d305,abG];refine bL (Hv t.1 b.q) e ?_;have f:bg (c5 t.1)=true:=rfl;have g:cellsOf (c5 t.1)=b9 t.1:=rfl;have bA:cr (b9 t.1)=4:=rfl;have h:cG (b9 t.1)=true:=rfl;have w:cC (b9 t.1) [aD,.an,aD,.an] 0=some (b9 t.1):=rfl;have i:cq (b9 t.1) 4=some (b9 t.1):=rfl;have fP:V.agg (b9 t.1)=c5 t.1:=rfl;simp only[go_sem,f,g,bA,h,w];simp only[go_sem,abN,i,fP];refine use (Gc t.1) ?_;have v:decide (t.1.num=0)=false:=aZ b.nz;have F:((t.2.length:Nat):Int)=(n:Int):=by rw[r]
 simp(disch:=assumption)only[go_sem,abM,v,dt];refine agI t.2 (fun x u=>by have:=Pm u;have:=b.sum;omega) aa _ _ _ ?_ ?_ ?_ ?_
 iterate 3 simp only[go_sem]
 intro c a;have j:rd 3 c=.ptr 5 0:=by rw[a 3 ag];simp only[go_sem]
 have k:rd 4 c=.ptr 6 0:=by rw[a 4 ag];simp only[go_sem]
 have l:rd 6 c=.ptr 7 0:=by rw[a 6 ag];simp only[go_sem]
 clear a;have mI:cC (b9 t.1) [ah 0,ah 0,ah 0,ah 0,ah 0,ah 0,aD,.an,aD,.an] 6=some ([ah 0,ah 0,ah 0,ah 0,ah 0,ah 0]++b9 t.1):=rfl;have s:slice3 (nB 6 1) false false false [.ptr 8 0]=some (.val (.slice 8 0 6 (.known 6))):=rfl;rw[fA];simp only[go_sem,abL,abK,abJ,j,l,f,g,bA,h,i,fP,mI,s];refine agj (b:=8) (cs:=[ah 0,ah 0,ah 0,ah 0,ah 0,ah 0]++b9 t.1) (by simp only[go_sem]) aB aa ?_;have m:cv t.2++(([V.int .i64 0,ah 0,ah 0,ah 0,ah 0,ah 0]:List V)++b9 t.1).drop t.2.length=bI t:=by
  unfold bI dc;rw[eJ];congr 1;rw[show([V.int .i64 0,ah 0,ah 0,ah 0,ah 0,ah 0]:List V)=aX 6 (ah 0)from rfl,List.drop_append_of_le_length (by simp;omega),List.drop_replicate]
 rw[m];have d:=lQ (t:=t) aa;have y:cq (bI t) 10=some (bI t):=iC d;have z:V.agg (bI t)=nT t:=rfl;have A:bg (nT t)=true:=rfl;have B:cellsOf (nT t)=bI t:=rfl;have C:cr (bI t)=10:=by rw[gO,d]
 have D:cC (bI t) [ah 0,ah 0,ah 0,ah 0,ah 0,ah 0,aD,.an,aD,.an] 0=some (bI t):=vK d;simp only[go_sem,abI,k,y,z,A,B,C,D,sy];refine bZ ?_ rfl o
 repeat' first|exact e|exact Nat.le_add_left 5 _|exact ag|refine GT.set ?_ ?_ _|refine GT.push ?_ ?_ _
def gd:List ax→List V
 |[]=>[]
 |t::l=>bI t++gd l
def zh(l:List ax):V:=.row l.length (gd l)
theorem Bx:∀(l m:List ax),gd (l++m)=gd l++gd m
 |[],_=>rfl
 |t::l,m=>by simp[gd,Bx l m]
theorem NW:∀l,bY (gd l)
 |[]=>.nil
 |t::l=>lu (NU t) (NW l)
theorem NV(l:List ax):bz (zh l):=.row _ (NW l)
theorem FG:∀l:List ax,(∀t∈l,t.2.length≤6)→(gd l).length=l.length*10
 |[],_=>rfl
 |t::l,h=>by
  rw[gd,aS,lQ (h t aB),FG l fun u a=>h u (by simp[a]),cL];omega
variable{f:Type}
theorem Cx(a:List f)(n:Nat):(rep a n).length=n*a.length:=by
 induction n with
 |zero=>rw[jb];rfl
 |succ n b=>
  show(cW a (rep a n)).length=_;rw[iP,aS,b,cF];omega
theorem SH(l:List ax)(i:Nat):(jQ l).drop (i*2)=jQ (l.drop i):=by
 induction l generalizing i with
 |nil=>simp[jQ]
 |cons t l a=>
  cases i with
  |zero=>simp
  |succ i=>
   rw[List.drop_succ_cons,←a,(aa:(i+1)*2=i*2+1+1)];rfl
variable{l:List ax}
theorem Dg{t:ax}(h:l[a]? =some t):cq (eC (jQ l) (a*2)) 2=some (wu t):=by
 rw[kG,SH,drop_cons h,e4];rfl
theorem SI{t:ax}(h:l[a]? =some t):cK (jQ l) (a*2+1)=some (b6 t.2):=by
 rw[gF,←q5,SH,drop_cons h];rfl
@[go_sem]theorem avB(l:List ax):cT (eN l)=some (.val (ah (l.length:Int))):=rfl
variable{q:Int}{n:IntKind}
theorem qy(h:0≤q∧q<l.length):dJ none 2 [eN l,.int n q]=some (.val (.cY (jQ l) (q.toNat*2))):=kh h
theorem PM{bytes n:Nat}{k l:IntKind}(h:n*bytes≤1099511627776∧n≤1099511627776):mL bytes b [.int k 0,.int l (n:Int)]=some (.new (rep b n) (.slice 0 n)):=by
 show aQ (and (bM 0 n) (bM (dQ n bytes) 1099511627776)) (aQ (bM n 1099511627776) (some (aY.new (rep b n) (.slice 0 n))))=_;rw[jH (bQ n),jH (show dQ n bytes≤_ from h.1),jH h.2];rfl
theorem FF{bytes b n:Nat}{L new:List V}(l:c.get b=.cells L 0)(t:L.length=n*a)(hl:new.length=a)(hi:h<n)(p:n≤1073741824∧bytes≤1024)(r:cG new=true)(o:b≠c.next)
 (q:e (put m i (.slice b 0 (h+1) (.known n))) ((c.push (.cells new 0)).set b (.cells (L.take (h*a)++new++L.drop (h*a+a)) 0))):
 gj i e m (fH a bytes [.slice b 0 h (.known n),.slice c.next 0 1 (.known 1)] (c.push (.cells new 0))):=by
 have g:(c.push (.cells new 0)).cS c.next 0 (1*a)=some new:=by
  rw[fJ (cs:=new) (by rw[af.bf,ak rfl]),c_,ga,iC hl]
 have u:h*a+a≤n*a:=by rw[←oe];exact dn a hi
 have j:cC new L (0+h*a)=some (L.take (h*a)++new++L.drop (h*a+a)):=by
  rw[lC,dK,ak aa,hl]
 have k:(c.push (.cells new 0)).e5 b (0+h*a) new=some ((c.push (.cells new 0)).set b (.cells (L.take (h*a)++new++L.drop (h*a+a)) 0)):=by
  unfold af.e5;rw[af.bf,aj (Ne.symm o),l];show aQ (cG new) (ao (cC new L (0+h*a)) fun d=>some ((c.push (.cells new 0)).set b (.cells d 0)))=_;rw[r,j];rfl
 have f:fH a bytes [.slice b 0 h (.known n),.slice c.next 0 1 (.known 1)] (c.push (.cells new 0))=some (.slice b 0 (h+1) (.known n),(c.push (.cells new 0)).set b (.cells (L.take (h*a)++new++L.drop (h*a+a)) 0)):=by
  show ao ((c.push (.cells new 0)).cS c.next 0 (1*a)) (fun s=>jX a bytes (.slice b 0 h (.known n)) 1 s (c.push (.cells new 0)))=_
  rw[g];show aQ (je (h+1) bytes) (Bool.casesOn (motive:=fun _=>Option (V×af)) (bM (h+1) n) _ (ao ((c.push (.cells new 0)).e5 b (0+h*a) new) fun c=>some (V.slice b 0 (h+1) (.known n),c)))=_;rw[qq ⟨aa,cy (j_ (aa:h+1≤1073741824) p.2) ag⟩,jH (show h+1≤n from hi),k];rfl
 rw[f];exact q
structure jo (n:Nat) (p:List ax):Prop where
 t:∀t∈p,I1 n t
 ord:p.Pairwise fun a b=>ord a.2 b.2=1
 len:p.length≤4096
theorem QB(c:l.Pairwise fun a b=>ord a.2 b.2=1){s t:ax}(f:l[h]? =some s)(g:l[h+1]? =some t):ord s.2 t.2=1:=by
 obtain⟨d,rfl⟩:=fN.1 f;obtain⟨e,rfl⟩:=fN.1 g;exact List.pairwise_iff_getElem.1 c h (h+1) d e (mm h)
def S2(n:Nat)(p:List ax)(k:Nat)(F:Fr)(H:af):Prop:=∃(i:Nat) (L:List V),k=p.length-i∧i≤p.length∧rd 1 F=.ptr 5 0∧rd 4 F=.slice 6 0 i (.known p.length)∧rd 22 F=eN p∧rd 23 F=ah (p.length:Int)∧rd 24 F=ah (i:Int)∧
 H.get 5=.cells (cj n p) 0∧H.get 6=.cells L 0∧L.length=p.length*10∧L.take (i*10)=gd (p.take i)∧GT H∧7≤H.next
theorem ahn{b:Cap}(f:c.get a=.cells (gd l) 0)(g:H.get a=.none)(j:l.length=h)(hl:∀t∈l,t.2.length≤6):bR c H (.slice a 0 h b) (zh l):=by
 subst j;cases e:l with
 |nil=>exact .eW a 0 b
 |cons d m=>
  rw[←e];have i:=FG l hl;refine .row (m:=(gd l).length) (cs:=gd l) ?_ ?_ g (cD.refl _)
  ·rw[fJ f,c_,iC rfl]
  ·rw[i,e,cL];omega
theorem arP(n:Nat)(G:n≤6)(p:List ax)(d:jo n p):c4 245 [gX n p] (.az [zh p,bO]):=by
 have ad:=d.len;have R:∀a∈p,a.2.length≤6:=fun a c=>by rw[(d.t a c).len];exact G
 refine dm (.cons (.agg (.cons (.int _ _) (.cons (sI _) .nil))) .nil) (aT akF ?_);have d1:¬((n:Nat):Int)<0:=aa;have d2:¬((6:Int)<((n:Nat):Int)):=aa;simp(disch:=first|assumption|omega)only[d245,Z9,Z8,Z7,gX,cj,go_sem,↓reduceIte,kR,df,PM]
 refine bH (S2 n p) p.length ⟨0,rep [ah 0,ah 0,ah 0,ah 0,ah 0,ah 0,aD,.an,aD,.an] p.length,rfl,bQ _,?_,?_,?_,?_,?_,?_,?_,?_,?_,?_,?_⟩ ?_
 iterate 4 simp only[go_sem]
 ·simp only[go_sem];rfl
 ·simp only[go_sem];rfl
 ·simp only[go_sem]
 ·rw[Cx];rfl
 ·simp[gd]
 ·exact(fB.push ag _).push (by show 5≤6;decide) _
 ·show 7≤7;decide
 rintro k F H ⟨i,L,rfl,hi,e,u,r,f,g,h,v,E,l,m,ae⟩;rw[Z5];by_cases U:i<p.length
 ·obtain⟨a,c⟩:∃a,p[i]? =some a:=⟨p[i],cn U⟩;have X:=eT c;have o:=d.t a X;have O:=Dg c;have b:=lQ (t:=a) (by have:=o.len;omega);have I:cq (bI a) 10=some (bI a):=iC b;have J:V.agg (bI a)=nT a:=rfl;have z:bg (nT a)=true:=rfl;have A:cellsOf (nT a)=bI a:=rfl;have B:cr (bI a)=10:=by rw[gO,b]
  have C:cC (bI a) [ah 0,ah 0,ah 0,ah 0,ah 0,ah 0,aD,.an,aD,.an] 0=some (bI a):=vK b;have q:¬H.next=5:=aa
  have M:¬H.next=6:=aa
  have D:¬H.next+1=5:=aa
  have N:¬H.next+1=6:=aa
  have Z:¬H.next+1=H.next:=aa
  have K:¬H.next=3:=aa
  have al:¬H.next=4:=aa
  have S:GT ((H.push (.cells [.str [],.an] 0)).set H.next (.cells (wu a) 0)):=(m.push aa _).set aa _
  simp(disch:=omega)only[go_sem,LW,Z4,e,r,f,g,dt,qy,bJ,O,h,wu];simp(disch:=omega)only[go_sem,q,cj];refine bL (ao4 n G a o) S ?_;simp(disch:=omega)only[go_sem,z,A,B,C,sy];obtain rfl|⟨j,rfl⟩:i=0∨∃j,i=j+1:=by
   cases i with
   |zero=>exact .inl rfl
   |succ j=>exact .inr ⟨j,rfl⟩
  ·have am:¬((0:Nat):Int)>0:=aa;simp(disch:=omega)only[go_sem,u,I,J,z,A,B,C,df];refine FF (L:=L) ?_ E b aa ⟨aa,ag⟩ (sy a) (by show 6≠H.next+1+1;omega) ?_
   ·simp(disch:=omega)only[go_sem,v,M,N]
   simp(disch:=omega)only[go_sem,LV,g,aH];refine⟨p.length-(0+1),aa,0+1,L.take (0*10)++bI a++L.drop (0*10+10),rfl,aa,?_,?_,?_,?_,?_,?_,?_,?_,?_,?_,?_⟩
   iterate 4 simp only[go_sem,e,r,f]
   ·simp only[go_sem];rfl
   ·simp(disch:=omega)only[go_sem,h,q,D,K,cj]
   ·simp(disch:=omega)only[go_sem]
   ·simp only[aS,dD,gZ,b];omega
   ·rw[CY c,Bx,←l];have w:(L.take (0*10)++bI a).length=(0+1)*10:=by rw[aS,dD,b];omega
    rw[←w,p_];simp[gd]
   ·repeat' first|exact m|omega|(simp only[go_sem];omega)|refine GT.set ?_ ?_ _|refine GT.push ?_ ?_ _
   ·show 7≤H.next+1+1+1;omega
  ·obtain⟨s,x⟩:∃s,p[j]? =some s:=⟨p[j],cn aa⟩;have y:=d.t s (eT x);have P:=SI x;have W:=QB d.ord x c;have Q:((j+1:Nat):Int)-1=(j:Int):=aa;simp(disch:=omega)only[go_sem,e,h,q,D,Z,cj,dt,qy,bJ,aH,Q,P];refine use (Qw s.2 a.2 (by rw[y.len,o.len]) (by rw[y.len];omega) (by have:=y.sum;omega) (by have:=o.sum;omega)) ?_;simp(disch:=omega)only[go_sem,u,I,J,z,A,B,C,dt,W];refine FF (L:=L) ?_ E b aa ⟨aa,ag⟩ (sy a) (by show 6≠H.next+1+1;omega) ?_
   ·simp(disch:=omega)only[go_sem,v,M,N]
   simp(disch:=omega)only[go_sem,LV,g,aH];refine⟨p.length-((j+1)+1),aa,(j+1)+1,L.take ((j+1)*10)++bI a++L.drop ((j+1)*10+10),rfl,aa,?_,?_,?_,?_,?_,?_,?_,?_,?_,?_,?_⟩
   iterate 4 simp only[go_sem,e,r,f]
   ·simp only[go_sem];rfl
   ·simp(disch:=omega)only[go_sem,h,q,D,K,cj]
   ·simp(disch:=omega)only[go_sem]
   ·simp only[aS,dD,gZ,b];omega
   ·rw[CY c,Bx,←l];have w:(L.take ((j+1)*10)++bI a).length=((j+1)+1)*10:=by rw[aS,dD,b];omega
    rw[←w,p_];simp[gd]
   ·repeat' first|exact m|omega|(simp only[go_sem];omega)|refine GT.set ?_ ?_ _|refine GT.push ?_ ?_ _
   ·show 7≤H.next+1+1+1;omega
 ·have T:i=p.length:=aa;subst T;simp(disch:=omega)only[go_sem,LW,Z6,u,f,g,df];rw[b_ aa,b_ (aE _)]at l;subst l;have Y:(cZ.mz H.next).get 6=.none:=by rw[af.qv,kD];rfl
  exact⟨m,_,.az (.cons (ahn v Y rfl R) (.cons (.same _) .nil)),.az (.cons (NV p) (.cons (.bool _) .nil)),rfl⟩
theorem arF:pM 5 pZ 113 [eV 1] bO=true:=by kernel_rfl
theorem arG:pM 5 pZ 113 [eV 2] bO=true:=by kernel_rfl
theorem Sw(n:Nat)(a:n=1∨n=2):aW 113 [eV n] bO:=by
 rcases a with rfl|rfl
 ·exact rQ qY arF
 ·exact rQ qY arG
theorem ao0(n:Nat)(f:n≤6)(p:List ax)(d:jo n p):c4 181 [gX n p] (.az [zh p,bO]):=by
 have j:=d.len;refine dm (.cons (.agg (.cons (.int _ _) (.cons (sI _) .nil))) .nil) (aT ake ?_);have c:GT (cZ.push (.cells (cj n p) 0)):=fB.push ag _;have e:bz (.az [zh p,bO]):=.az (.cons (NV p) (.cons (.bool _) .nil));simp(disch:=first|assumption|omega)only[d181,Yl,Yk,gX,cj,go_sem,↓reduceIte,kR,df]
 refine bL (arP n f p d) c ?_;cases a:p with
 |nil=>
  subst a;have l:¬((0:Nat):Int)>0:=aa;simp(disch:=omega)only[go_sem,Lr,Lq,df,kP];exact bZ c rfl e
 |cons b m=>
  rw[←a];have g:p[0]? =some b:=by rw[a];rfl
  have h:=d.t b (eT g);have i:cK (jQ p) (Int.toNat 0*2+1)=some (b6 b.2):=SI g;have k:0<p.length:=by rw[a];exact lf _
  simp(disch:=omega)only[go_sem,Lr,Lq,dt,qy,i];refine use (GF b.2 (by rw[h.len];exact f) h.sum) ?_;simp(disch:=omega)only[go_sem];exact bZ c rfl e
theorem z2(n:Nat)(b:n≤6)(p:List ax)(c:jo n p):c4 115 [gX n p] bO:=by
 refine dm (.cons (.agg (.cons (.int _ _) (.cons (sI _) .nil))) .nil) (aT ajJ ?_);have a:GT (cZ.push (.cells (cj n p) 0)):=fB.push ag _;simp(disch:=first|assumption|omega)only[d115,Vv,Vu,gX,cj,go_sem,↓reduceIte,kR]
 refine bL (ao0 n b p c) a ?_;simp(disch:=first|assumption|omega)only[go_sem,↓reduceIte,kR]
 exact bZ a rfl (.bool _)
def oo(p:fz):List V:=[eV p.n,ah (p.n:Int),eN p.obj,cA p.n p.is,cA p.n p.es]
theorem GX(p:fz)(k:p.n=1∨p.n=2)(q:List ax)(h:jo p.n q)(H:af)(b:Nat)(i:5≤b)(j:b<H.next)(c:H.get b=.cells (oo p) 0)(d:GT H):
 c7 114 [gX p.n q,.ptr b 0] H fun v a=>v=bO∧a=H.push (.cells (cj p.n q) 0):=by
 refine aT ajI ?_;have e:GT (H.push (.cells (cj p.n q) 0)):=d.push aa _;have f:¬H.next=b:=aa
 have g:cT (eV p.n)=some (.val (ah (p.n:Int))):=rfl;simp(disch:=first|assumption|omega)only[d114,Vt,gX,cj,go_sem,↓reduceIte,kR]
 refine bL (z2 p.n aa q h) e ?_;simp(disch:=first|assumption|omega)only[go_sem,↓reduceIte,kR,c,oo,f,g]
 exact⟨aB,trivial⟩
theorem rN(d:a=1∨a=2)(e:h≤3)(b:q3 a h l):jo a l:=
 ⟨fun t c=>⟨(b.2.1 t c).2.mono aa,b.1.2 t c,(Cc d t.2 (b.2.1 t c).1).1,by have:=(Cc d t.2 (b.2.1 t c).1).2;omega⟩,b.1.1,by have:=b.2.2;omega⟩
theorem ar3(n:Nat)(l:List (List ax))(i:Nat):(fT n l).drop (i*2)=fT n (l.drop i):=by
 induction l generalizing i with
 |nil=>simp[fT]
 |cons t l a=>
  cases i with
  |zero=>simp
  |succ i=>
   rw[List.drop_succ_cons,←a,(aa:(i+1)*2=i*2+1+1)];rfl
variable{K:List (List ax)}
theorem uO{n:Nat}(h:K[a]? =some l):cq (eC (fT n K) (a*2)) 2=some (cj n l):=by
 obtain⟨b,rfl⟩:=fN.1 h;rw[kG,ar3,lI b,e4];rfl
@[go_sem]theorem avA(n:Nat)(l:List (List ax)):cT (cA n l)=some (.val (ah (l.length:Int))):=rfl
theorem uc(h:0≤q∧q<K.length):dJ none 2 [cA a K,.int n q]=some (.val (.cY (fT a K) (q.toNat*2))):=kh h
@[go_sem]theorem vD(l:List ax):bg (eN l)=true:=rfl
@[go_sem]theorem auB(l:List ax):cellsOf (eN l)=[eN l]:=rfl
@[go_sem]theorem av5(l:List ax):V.one (eN l)=true:=rfl
def I2(p:fz)(l:List (List ax))(a b c:Nat)(k:Nat)(F:Fr)(H:af):Prop:=∃i:Nat,k=l.length-i∧i≤l.length∧rd 1 F=.ptr 5 0∧rd 3 F=.func 114 [] [.ptr 5 0]∧rd a F=cA p.n l∧rd b F=ah (l.length:Int)∧rd c F=ah (i:Int)∧
 H.get 5=.cells (oo p) 0∧GT H∧6≤H.next
theorem Sr(p:fz)(h:p.aA):c4 60 [js p] bO:=by
 have e:=h.n;have I:=h.li;have G:=h.le;have E:=rN e ag h.obj;refine dm (.cons (sG _ e) .nil) (aT alw ?_);simp(disch:=first|assumption|omega)only[d60,aex,aew,aev,js,go_sem,↓reduceIte,kR]
 have D:Cb 114 0 [.ptr 5 0]=some (.val (.func 114 [] [.ptr 5 0])):=rfl;have w:∀x:V,ru [.func 114 [] [.ptr 5 0],x]=some (.fn 114,[x,.ptr 5 0]):=fun _=>rfl
 refine use (Sw p.n e) ?_;simp(disch:=first|assumption|omega)only[go_sem,↓reduceIte,kR,df,D]
 refine bH (I2 p p.is 26 27 28) p.is.length ⟨0,rfl,bQ _,?_,?_,?_,?_,?_,?_,?_,?_⟩ ?_
 iterate 4 simp only[go_sem]
 ·simp only[go_sem];rfl
 ·simp only[go_sem];rfl
 ·exact fB.push ag _
 ·show 6≤6;decide
 rintro k F H ⟨i,rfl,hi,f,d,j,b,c,a,g,y⟩;rw[aey];have l:¬H.next=5:=aa
 by_cases t:i<p.is.length
 ·obtain⟨q,r⟩:∃q,p.is[i]? =some q:=⟨p.is[i],cn t⟩;have A:=rN e ag (h.is q (eT r));have u:=uO (n:=p.n) r;have J:¬H.next=3:=aa
  have z:¬H.next=4:=aa
  have o:GT ((H.push (.cells [ah 0,.an] 0)).set H.next (.cells (cj p.n q) 0)):=(g.push aa _).set aa _
  simp(disch:=omega)only[go_sem,MZ,aeu,d,j,b,c,dt,uc,bJ,u,cj,w];refine(GX p e q A _ 5 ag (by show 5<H.next+1;omega) (by simp(disch:=omega)only[go_sem,l,a]) o).mono fun v B ⟨s,m⟩=>?_
  subst s m;simp(disch:=omega)only[go_sem,aet,c,aH];refine⟨p.is.length-(i+1),aa,i+1,rfl,aa,?_,?_,?_,?_,?_,?_,?_,?_⟩
  iterate 4 simp only[go_sem,f,d,j,b]
  ·simp only[go_sem];rfl
  ·simp(disch:=omega)only[go_sem,a,l,z]
  ·exact o.push (by show 5≤H.next+1;omega) _
  ·show 6≤H.next+1+1;omega
 ·simp(disch:=omega)only[go_sem,MZ,aeD,f,b,c,a,oo,df];refine bH (I2 p p.es 38 39 40) p.es.length ⟨0,rfl,bQ _,?_,?_,?_,?_,?_,?_,?_,?_⟩ ?_
  iterate 4 simp only[go_sem,f,d]
  ·simp only[go_sem];rfl
  ·exact a
  ·exact g
  ·exact y
  clear t f d j b c a g y l hi i;rintro k F H ⟨i,rfl,hi,f,d,j,b,c,a,g,y⟩;rw[aeB];have l:¬H.next=5:=aa
  by_cases t:i<p.es.length
  ·obtain⟨q,r⟩:∃q,p.es[i]? =some q:=⟨p.es[i],cn t⟩;have A:=rN e ag (h.es q (eT r));have u:=uO (n:=p.n) r;have z:¬H.next=4:=aa
   have o:GT ((H.push (.cells [ah 0,.an] 0)).set H.next (.cells (cj p.n q) 0)):=(g.push aa _).set aa _
   simp(disch:=omega)only[go_sem,M0,aeA,d,j,b,c,dt,uc,bJ,u,cj,w];refine(GX p e q A _ 5 ag (by show 5<H.next+1;omega) (by simp(disch:=omega)only[go_sem,l,a]) o).mono fun v B ⟨s,m⟩=>?_
   subst s m;simp(disch:=omega)only[go_sem,aez,c,aH];refine⟨p.es.length-(i+1),aa,i+1,rfl,aa,?_,?_,?_,?_,?_,?_,?_,?_⟩
   iterate 4 simp only[go_sem,f,d,j,b]
   ·simp only[go_sem];rfl
   ·simp(disch:=omega)only[go_sem,a,l,z]
   ·exact o.push (by show 5≤H.next+1;omega) _
   ·show 6≤H.next+1+1;omega
  ·have C:cq (eC (oo p) 1) 2=some (cj p.n p.obj):=rfl;simp(disch:=omega)only[go_sem,M0,aeC,f,d,b,c,a,df,C,w];refine(GX p e p.obj E H 5 ag aa a g).mono fun v B ⟨s,m⟩=>?_
   subst s m;simp(disch:=omega)only[go_sem];exact bZ (g.push aa _) rfl (.bool _)
theorem Uz(e:List Nat)(h:0<e.length∧e.length≤1000):aW 228 [b6 e] (b6 e):=KF 228 (cv e) e.length h (j0 e) (FN e) (.inr rfl)
theorem zl(n:Nat)(p:List ax):bz (gX n p):=.agg (.cons (.int _ _) (.cons (sI _) .nil))
theorem UU(n:Nat)(p:List ax)(Z:0<n∧n≤6)(I:∀t∈p,t.2.length=n)(hl:p.length≤4096):aW 158 [gX n p] (gX n p):=by
 refine fE (.cons (zl n p) .nil) (aT aj1 ?_);simp only[go_sem,d158,XP,XO,gX,cj];refine bH (fun m b a=>∃(i:Nat) (v:V) (g:Nat),m=p.length-i∧i≤p.length∧rd 2 b=.ptr 6 0∧rd 3 b=.ptr 7 0∧rd 10 b=eN p∧rd 11 b=ah (p.length:Int)∧rd 12 b=ah (i:Int)∧a.get 6=.cells [ah 0,.an] 0∧a.get 7=.cells [ah (n:Int),v] 0∧8≤a.next∧aI a 2 v (jQ (p.take i)) g) p.length ⟨0,.an,0,rfl,bQ _,?_,?_,?_,?_,?_,?_,?_,?_,.nil⟩ ?_
 iterate 4 simp only[go_sem]
 ·simp only[go_sem];rfl
 iterate 2 simp only[go_sem]
 ·exact aE 8
 rintro m b a ⟨i,v,g,rfl,hi,A,f,z,o,q,j,br,ab,l⟩;rw[XM];obtain⟨ae,al,O⟩:=l.bg;by_cases M:i<p.length
 ·obtain⟨t,u⟩:∃t,p[i]? =some t:=⟨p[i],cn M⟩;have ac:=I t (eT u);have x:=Dg u;have r:decide ((i:Int)<((p.length:Nat):Int))=true:=bk aa;have X:aC .i64 ((i:Int)+1)=((i+1:Nat):Int):=by rw[aH _ aa];rfl
  have N:=ID (p.take i);rw[dD,m5 hi]at N;have H:=Uz t.2 aa;have S:cG [V.str (bh t.1),b6 t.2]=true:=rfl;have C:¬a.next=7:=aa
  simp only[wu]at x;simp(disch:=omega)only[go_sem,Lc,XL,f,z,o,q,r,qy,bJ,x,C,br];refine use H ?_;simp only[go_sem,C,br,true_and];have d:∀y,y<a.next→((a.push (.cells [.str [],.an] 0)).set a.next (.cells [.str (bh t.1),b6 t.2] 0)).get y=a.get y:=fun y hy=>by
   rw[af.aK,aj aa,af.bf,aj aa]
  have s:=l.low d (by simp only[go_sem];omega);refine gW (bytes:=40) s rfl ag S ⟨aa,ag⟩ fun W Y F D am w T=>?_
  simp only[jh,GK]at w T;have U:=(w 6 aa (s.ne (cs:=[ah 0,.an]) (k:=0) (by rw[d 6 aa,j]))).trans (by rw[d 6 aa,j]);have E:=(w 7 aa (s.ne (cs:=[ah (n:Int),v]) (k:=0) (by rw[d 7 aa,br]))).trans (by rw[d 7 aa,br]);obtain⟨P,Q,R⟩:=D.bg;simp only[go_sem,XK,f,E,P,Q,R,q,X];refine⟨p.length-(i+1),aa,i+1,W,F,rfl,aa,?_,?_,?_,?_,?_,?_,?_,?_,?_⟩
  iterate 7 simp only[go_sem,A,f,z,o,U]
  ·simp only[go_sem];omega
  ·refine aI.set ?_ E _;obtain⟨K,e⟩:=fN.1 u;rw[kQ K,e,Df];simpa [jQ,wu]using D
 ·have L:i=p.length:=aa;subst L;have r:decide (((p.length:Nat):Int)<((p.length:Nat):Int))=false:=aZ aa;rw[b_ (aE _)]at l;simp only[go_sem,Lc,XN,A,f,o,q,r,j,br,O];have J:∀c:af,aI c 2 v (jQ p) g→bR c (af.zero c.next) v (eN p):=fun c h=>by
   obtain⟨k,B,G⟩:=h.di (H2:=af.zero c.next) ag (fun _ _ _=>kN) (cD.refl _)
   rw[ID]at G;have:k=p.length:=aa;rw[this]at B;exact B
  exact⟨_,.agg (.cons (.same _) (.cons (J _ (l.set j _)) .nil)),zl n p,rfl⟩
theorem Em(n:Nat)(p:List ax)(b:0<n∧n≤6)(a:∀t∈p,t.2.length=n)(hl:p.length≤4096):aW 157 [gX n p] (.az [gX n p,ah 0]):=by
 refine cO (.cons (zl n p) .nil) (.az (.cons (zl n p) (.cons (.int _ _) .nil))) (aT aj0 ?_);have h:=UU n p b a hl;unfold gX cj at h;simp only[go_sem,d157,XJ,gX,cj];refine use h ?_;simp only[go_sem]
end Go.Proofs.YtddhncjmaahodaaGreatDoor
