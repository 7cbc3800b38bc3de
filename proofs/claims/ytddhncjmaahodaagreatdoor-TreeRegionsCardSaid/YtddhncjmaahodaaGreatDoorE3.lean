/- Towards the law TreeRegions: lemmas on the evaluator of the model's code, plain laws of numbers, walks of the program's functions, the card. No conditions. -/
import Derived.Test.YtddhncjmaahodaaGreatDoorE2
set_option linter.all false
noncomputable section
open Bool renaming false_eq_true→kj,false_ne_true→rJ,not_false→gS,not_true→dZ
open Go.IntKind renaming bits→oy,signed→oz,wrap→qC
open Int renaming natAbs_mul→nH,natAbs_natCast→cV,natAbs_neg→lO,natCast_mul→e7,natCast_nonneg→s7,natCast_zero→jn,ofNat_lt→qB,tdiv→kq,tmod→lP,toNat_natCast→bN
open List renaming append_assoc→eG,append_nil→fA,cons_append→fm,drop_of_length_le→i_,getD_eq_getElem?_getD→c_,getElem?_append_left→k3,getElem?_append_right→pI,getElem?_eq_getElem→cH,getElem?_eq_none→m9,getElem?_map→qE,length_append→bt,length_cons→di,length_drop→gF,length_map→lQ,length_nil→lR,length_pos_iff→vb,length_replicate→vc,length_singleton→gm,length_take_of_le→gK,length_take→ep,length→jD,mem_cons→gL,mem_map→nc,mem_of_getElem?→er,mem_of_mem_take→ve,mem_singleton→dH,nil_append→eM,range→lS,replicate_succ→oA,replicate_zero→oB,replicate→br,take_append_drop→oC,take_append_of_le_length→xh,take_left'→qG,take_left→oD,take_of_length_le→cq,take_succ_eq_append_getElem→jZ,take_zero→nK
open Nat renaming add_comm→iy,add_mul→cZ,add_sub_cancel→pL,add_zero→cO,beq→bK,ble→b8,div_add_mod→iN,div_div_eq_div_mul→nL,div_eq_of_lt→lT,div_le_self→g7,div_lt_iff_lt_mul→pM,div_lt_of_lt_mul→s9,div_mul_le_self→vg,div_one→nM,dvd_trans→rN,eq_zero_or_pos→qH,gcd_comm→oF,gcd_dvd_right→ta,gcd_one_right→tc,gcd→cx,le_add_right→qI,le_div_iff_mul_le→rO,le_of_lt→hD,le_of_not_lt→ja,le_refl→aR,le_trans→cI,lt_of_le_of_lt→eH,lt_of_lt_of_le→ei,lt_of_mul_lt_mul_right→rP,lt_of_not_le→rQ,lt_or_ge→k4,lt_succ_self→lU,lt_trans→oG,min_eq_left→oH,mod_eq_of_lt→jr,mod_lt→eK,mul_add→bU,mul_assoc→cg,mul_comm→b3,mul_div_cancel→td,mul_le_mul_left→fc,mul_le_mul_right→dz,mul_left_comm→k5,mul_lt_mul_of_pos_right→ng,mul_mod_mul_right→qJ,mul_ne_zero→tf,mul_one→dQ,mul_right_comm→rR,mul_zero→fe,one_mul→fM,pos_of_ne_zero→jP,pow_add→fX,pow_le_pow_left→vh,pow_le_pow_right→fN,pow_pos→e8,pow_succ→c3,pow_zero→mF,reduceEqDiff→kz,sub_self→lV,succ_pos→nh,zero_add→fB,zero_le→ck,zero_mul→jE
open Option renaming isSome→pP
open UInt8 renaming ofNat→gG,toNat_inj→vl
namespace Go.Proofs.YtddhncjmaahodaaGreatDoor
open Go.aE Go.aV
variable{a:Nat}{g:Nat}{z:Nat}
theorem KX(b:0<z)(c:a<z)(d:g<18446744073709551616):(a*18446744073709551616+g)/z<18446744073709551616:=by
 rw[pM b];have:(a+1)*18446744073709551616≤z*18446744073709551616:=dz _ c;rw[b3 z]at this;omega
variable{I:Nat}
theorem KW{b Q V:Nat}(c:z*I+b=a*18446744073709551616+g)(d:Q*z+a=V):(I+18446744073709551616*Q)*z+b=g+18446744073709551616*V:=by
 rw[←d,cZ,cg,bU];rw[b3 z]at c;omega
theorem apB(a:List Nat)(d:Nat)(s:W.aM a)(f:0<d∧d<18446744073709551616)(y:a.length<4294967295):bA 255 [bz a,az (d:Int)] (az ((W.val a%d:Nat):Int)):=by
 refine cT (.cons (dA _) (.cons (.int _ _) .nil)) (.int _ _) (bg als ?_);simp(disch:=omega)only[go_sem,Sq,Sw,Sv,aQ];refine bW (fun k b p=>∃(j r:Nat) (Q:Nat),rd 0 b=bz a∧rd 1 b=az (d:Int)∧rd 5 b=az (r:Int)∧rd 6 b=ai ((j:Int)-1)∧k=j∧j≤a.length∧r<d∧Q*d+r=W.val (a.drop j)) a.length ⟨a.length,0,0,?_,?_,?_,?_,rfl,aR _,f.1,by simp[W.val]⟩ ?_
 iterate 2 simp only[go_sem]
 ·simp only[go_sem];rfl
 ·simp only[go_sem]
 rintro j b p ⟨_,r,Q,h,l,m,c,rfl,x,o,g⟩;unfold St;cases j with
 |zero=>
  simp(disch:=omega)only[go_sem,Su,m,c,dt];rw[List.drop_zero]at g;rw[←g,b3,Nat.mul_add_mod,jr o]
 |succ i=>
  have u:i<a.length:=aa;have v:=s.getD i;have t:(((i+1:Nat):Int)-1).toNat=i:=aa;have n:=eK (r*18446744073709551616+a.getD i 0) f.1;have e:=iN (r*18446744073709551616+a.getD i 0) d;simp(disch:=omega)only[go_sem,Ss,h,l,m,c,df,gw,t,dB];refine use (Be r (a.getD i 0) d o v f.2) ?_;simp(disch:=omega)only[go_sem,Sr,c,aQ];generalize(r*18446744073709551616+a.getD i 0)/d=q at e
  generalize(r*18446744073709551616+a.getD i 0)%d=w at n e⊢
  refine⟨i,aa,i,w,q+18446744073709551616*Q,?_,?_,?_,?_,rfl,aa,n,?_⟩
  iterate 3 simp only[go_sem,h,l]
  ·simp only[go_sem];congr 1;omega
  ·rw[W.sX u,KW e g]
theorem Kn(i v:Nat)(a:List Nat):(br (i+1) 0++a).set i v=br i 0++v::a:=by
 rw[List.replicate_succ',eG,List.set_append_right _ _ aJ];simp
theorem agF(a:List Nat)(d:Nat)(A:W.aM a)(e:0<d∧d<18446744073709551616)(H:a.length<4294967295):bA 364 [bz a,az (d:Int)] (.aK [bz (ax (W.val a/d)),az ((W.val a%d:Nat):Int)]):=by
 refine e3 (.cons (dA _) (.cons (.int _ _) .nil)) (bg alW ?_);simp(disch:=omega)only[go_sem,Vp,Vw,Vv,Vu,aQ,iH,nC];refine bW (fun k c p=>∃(j r:Nat) (b:List Nat),rd 0 c=bz a∧rd 1 c=az (d:Int)∧rd 6 c=.slice 5 0 a.length (.known a.length)∧rd 7 c=az (r:Int)∧rd 8 c=ai ((j:Int)-1)∧k=j∧j≤a.length∧W.aM b∧b.length=a.length-j∧r<d∧W.val b*d+r=W.val (a.drop j)∧p.get 5=.cells (aT (br j 0++b)) 0) a.length ⟨a.length,0,[],?_,?_,?_,?_,?_,rfl,aR _,W.aM.nil,aJ,e.1,by simp[W.val],?_⟩ ?_
 iterate 3 simp only[go_sem]
 ·simp only[go_sem];rfl
 ·simp only[go_sem]
 ·simp only[go_sem];simp
 rintro j c p ⟨_,r,b,s,t,h,u,l,rfl,E,z,F,g,o,f⟩;unfold Vs;cases j with
 |zero=>
  simp(disch:=omega)only[go_sem,Vt,h,l,dt];have C:b.length=a.length:=aa;rw[oB,eM]at f;refine iL (pz b aa) f ⟨0,_,_,dH.2 rfl⟩ (.cons (oS f (by rw[ag.a_,ay rfl]) C) .nil) ?_;simp(disch:=omega)only[go_sem,u];rw[List.drop_zero]at o;refine g8 ?_ (.aK (.cons (dA _) (.cons (.int _ _) .nil)));rw[kX z,←o,b3 (W.val b) d,Nat.mul_add_mod,jr g,Nat.mul_add_div e.1,lT g,cO]
 |succ i=>
  have B:i<a.length:=aa;have y:=A.getD i;have v:(((i+1:Nat):Int)-1).toNat=i:=aa;have x:=KX e.1 g y;have w:=eK (r*18446744073709551616+a.getD i 0) e.1;have m:=iN (r*18446744073709551616+a.getD i 0) d;have n:=Be r (a.getD i 0) d g y e.2;generalize(r*18446744073709551616+a.getD i 0)/d=q at x m n
  generalize(r*18446744073709551616+a.getD i 0)%d=D at w m n
  have G:(aT (br (i+1) 0++b)).length=a.length:=by rw[eD];simp;omega
  simp(disch:=omega)only[go_sem,Vr,s,t,h,u,l,df,gw,v,dB];refine use n ?_;simp(disch:=omega)only[go_sem,Vq,l,cR,v,f,gk,jI,Kn,aQ];refine⟨i,aa,i,D,q::b,?_,?_,?_,?_,?_,rfl,aa,.mk x z,by simp;omega,w,?_,?_⟩
  iterate 4 simp only[go_sem,s,t,h]
  ·simp only[go_sem];congr 1;omega
  ·rw[W.sX B];exact KW m o
  ·rw[ag.a_,ay rfl]
theorem aqH{P b w V X Y:Nat}(h:X+P*g=V+Y*w)(c:b+18446744073709551616*z=a+I*w+g):X+P*b+P*18446744073709551616*z=V+P*a+(Y+P*I)*w:=by
 have e:=congrArg (P* ·) c;simp only[bU,←cg]at e;rw[cZ];omega
theorem aqS(e a f g:List Nat)(w n:Nat)(X:W.aM a)(hx:W.aM g)(K:w<18446744073709551616)(Z:g.length=n)(a2:a.length=n)(ls:(e++a++f).length<1000000)(o b:Nat)(ho:e.length=o)(c:Cap)(H:ag)(Q:H.get b=.cells (aT (e++a++f)) 0):
 dN 366 [.slice b o n c,bz g,az (w:Int)] H fun v j=>∃ds k,v=az ((k:Nat):Int)∧k<18446744073709551616∧ds.length=n∧W.aM ds∧W.val a+18446744073709551616^n*k=W.val ds+W.val g*w∧d_ H j b (aT (e++ds++f)):=by
 refine bg alY ?_;simp(disch:=omega)only[go_sem,VA,VG,VF]
 refine bW (fun k F j=>∃(ds:List Nat) (h:Nat),k=n-ds.length∧ds.length≤n∧rd 0 F=.slice b o n c∧rd 1 F=bz g∧rd 2 F=az (w:Int)∧rd 7 F=az (h:Int)∧rd 14 F=bz g∧rd 15 F=ai (n:Int)∧rd 16 F=ai (ds.length:Int)∧h<18446744073709551616∧W.aM ds∧
  W.val (a.take ds.length)+18446744073709551616^ds.length*h=W.val ds+W.val (g.take ds.length)*w∧d_ H j b (aT (e++ds++(a.drop ds.length++f)))) n ⟨[],0,rfl,ck _,?_,?_,?_,?_,?_,?_,?_,aa,W.aM.nil,by simp[W.val],?_⟩ ?_
 iterate 3 simp only[go_sem]
 ·simp only[go_sem];rfl
 iterate 2 simp only[go_sem,Z]
 ·simp only[go_sem];rfl
 ·have:=d_.refl Q;simpa using this
 rintro k F j ⟨ds,h,rfl,hd,D,O,G,I,E,u,x,R,M,A,i⟩;unfold VD;simp only[bt]at ls;by_cases hi:ds.length<n
 ·have L:=hx.getD ds.length;have Y:=X.getD ds.length;have S:=pZ (l:=a) (i:=ds.length) aa;rw[S,fm]at i;have T:=i.at;have q:(e++ds).length=o+ds.length:=by rw[bt,ho]
  have a0:o+ds.length<(aT (e++ds++a.getD ds.length 0::(a.drop (ds.length+1)++f))).length:=by rw[eD,bt,q];simp
  have a1:o+ds.length<(e++ds++a.getD ds.length 0::(a.drop (ds.length+1)++f)).length:=by rw[bt,q];simp
  have U:=oT (es:=a.drop (ds.length+1)++f) (e:=a.getD ds.length 0) q;have hp:=wv L K;obtain⟨p,C⟩:∃p,p=g.getD ds.length 0*w:=⟨_,rfl⟩;have J:=BW _ _ L K;rw[←C]at hp J;obtain⟨d,N⟩:∃s,s=p%18446744073709551616+h:=⟨_,rfl⟩;obtain⟨B,l⟩:∃s,s=(a.getD ds.length 0+18446744073709551616-d%18446744073709551616-0)%18446744073709551616:=⟨_,rfl⟩;obtain⟨z,m⟩:∃z,z=(if d%18446744073709551616+0≤a.getD ds.length 0 then 0 else 1:Nat):=⟨_,rfl⟩;have P:=sub_one Y (show d%18446744073709551616<18446744073709551616 from eK _ aj) (ck 1);rw[←l,←m]at P;have r:=tn (a:=p%18446744073709551616) (b:=h) (c:=0) aa;rw[cO,←N]at r;have t:=CJ (a:=a.getD ds.length 0) (b:=d%18446744073709551616) (c:=0) aa;rw[←l,←m]at t;have a3:z≤1:=by rw[m];split<;>omega
  have ad:B<18446744073709551616:=by rw[l];exact eK _ aj
  clear l m;have V:p/18446744073709551616+d/18446744073709551616+z<18446744073709551616:=aa;rw[jn]at r t;have w1:aG .u64 (((p/18446744073709551616:Nat):Int)+((d/18446744073709551616:Nat):Int))=((p/18446744073709551616+d/18446744073709551616:Nat):Int):=by rw[cj _ aa];omega
  have w2:aG .u64 (((p/18446744073709551616+d/18446744073709551616:Nat):Int)+((z:Nat):Int))=((p/18446744073709551616+d/18446744073709551616+z:Nat):Int):=by rw[cj _ aa];omega
  simp(disch:=omega)only[go_sem,Hh,VC,G,E,u,x,dt,gw,bN,dB];refine use J ?_;simp(disch:=omega)only[go_sem,VB,D,I,x,cR,bN,T,dB,U,r,t,w1,w2,gk,jI,kW q,aQ];refine⟨n-(ds.length+1),aa,ds++[B],p/18446744073709551616+d/18446744073709551616+z,aJ,by simp;omega,?_,?_,?_,?_,?_,?_,?_,V,M.app (.mk ad W.aM.nil),?_,?_⟩
  iterate 6 simp only[go_sem,D,O,G,E,u]
  ·simp only[go_sem,bt,gm];rfl
  ·rw[W.fl];simp only[bt,gm,c3,W.val,fe,cO];rw[jX aa,jX aa];exact aqH A (by rw[←C];omega)
  ·have:=i.set (aT (e++(ds++[B])++(a.drop (ds.length+1)++f)));simpa using this
 ·have y:ds.length=n:=aa;simp(disch:=omega)only[go_sem,Hh,VE,I,u,x,df];rw[y,cq aa,cq aa]at A;rw[y,i_ aa,eM]at i;exact⟨ds,h,rfl,R,y,M,A,i⟩
variable{d:List Nat}
theorem I5{u post:List Nat}(c:d.length=a)(e:u.length=z)(b:g<z):(d++u++post).getD (a+g) 0=u.getD g 0:=by
 subst c e;simp only[c_];rw[eG,pI aa,Nat.add_sub_cancel_left,k3 b]
theorem amM{P V:Nat}(h:V=g*(a*P)+(I+P*z)):V=(g*a+z)*P+I:=by
 rw[h,cZ,cg g,b3 P];omega
theorem amL(f:d.length=a+1)(c:2≤a):W.val d=((d.getD a 0*18446744073709551616+d.getD (a-1) 0)*18446744073709551616+d.getD (a-2) 0)*18446744073709551616^(a-2)+W.val (d.take (a-2)):=by
 have h:=W.uo (l:=d) (n:=a+1) aa aa (fun p b=>by
  rw[c_,m9 aa];rfl)
 have e:=jX (l:=d) (i:=a-2) aa;rw[(aa:a-2+1=a-1)]at e;rw[(aa:a+1-1=a),(aa:a+1-2=a-1),e]at h;have b:(18446744073709551616:Nat)^(a-1)=18446744073709551616*18446744073709551616^(a-2):=by
  rw[(aa:a-1=a-2+1),c3,b3]
 rw[b]at h;exact amM h
theorem ahm{K w d e l W U V:Nat}(p:V=(g*K+z)*W+I)(o:U=((w*K+d)*K+e)*W+l)(r:I<W)(q:z<K)(m:K≤2*g+2)(j:g≤w)(i:a=K-1)(n:2≤K):(a-1)*V≤U:=by
 have h:V≤(g+1)*K*W:=by
  have c:g*K+z+1≤(g+1)*K:=by rw[cZ,fM];omega
  have b:=dz W c;rw[cZ (g*K+z),fM]at b;omega
 have f:g*K*K*W≤U:=by
  have c:g*K≤w*K+d:=cI (dz K j) (qI _ _);have b:g*K*K≤(w*K+d)*K+e:=cI (dz K c) (qI _ _);exact cI (dz W b) aa
 refine cI (fc _ h) (cI ?_ f);rw[←cg,←cg];refine dz W (dz K ?_);subst i;obtain⟨k,rfl⟩:∃k,K=k+2:=⟨K-2,aa⟩;rw[(aa:k+2-1-1=k),bU,bU,dQ,b3 k];omega
theorem ahk{w e f l W U V:Nat}(n:V=(a*I+g)*W+z)(m:U=((w*I+e)*I+f)*W+l)(h:U<V*I)(p:z<W)(o:g<I):w≤a:=by
 have j:V<(a+1)*(I*W):=by
  have d:a*I+g+1≤(a+1)*I:=by rw[cZ,fM];omega
  have b:=dz W d;rw[cZ (a*I+g),fM,cg]at b;omega
 have i:w*(I*W)*I≤U:=by
  have d:w*I≤w*I+e:=qI _ _;have b:w*I*I≤(w*I+e)*I+f:=cI (dz I d) (qI _ _);have c:=dz W b;rw[show w*(I*W)*I=w*I*I*W by ac_rfl];omega
 have k:w*(I*W)*I<(a+1)*(I*W)*I:=eH i (ei h (dz I (hD j)));have:=rP (rP k);omega
theorem ahj(P u m dv:List Nat)(n:Nat)(Z:W.aM u)(hd:W.aM dv)(hn:dv.length=n)(O:u.length=n+1)(h2:2≤n)(ls:(P++u++m).length<1000000)(ds:n<1000000)(dT:9223372036854775808≤dv.getD (n-1) 0)(hlt:W.val u<W.val dv*18446744073709551616)(o b:Nat)(Y:P.length=o)(c:Cap)(H:ag)(T:H.get b=.cells (aT (P++u++m)) 0):
 dN 365 [.slice b o (n+1) c,bz dv] H fun v z=>∃h,v=az ((h:Nat):Int)∧h<18446744073709551616∧W.val u/W.val dv≤h∧(h-1)*W.val dv≤W.val u∧z=H:=by
 have B:=W.uo (l:=dv) (n:=n) h2 aa (fun p hp=>by rw[c_,m9 aa];rfl);have j:=amL O h2;have ab:W.val (dv.take (n-2))<18446744073709551616^(n-2):=by
  have:=W.gC (hd.take (n-2));rw[gK aa]at this;exact this
 have be:W.val (u.take (n-2))<18446744073709551616^(n-2):=by
  have:=W.gC (Z.take (n-2));rw[gK aa]at this;exact this
 have b1:=hd.getD (n-1);have G:=hd.getD (n-2);have c':=Z.getD n;have a2:=Z.getD (n-1);have ca:=Z.getD (n-2);have dp:(P++u++m).length=o+(n+1)+m.length:=by rw[bt,bt,Y,O]
 have gn:=I5 (post:=m) Y O (aa:n<n+1);have BA:=I5 (post:=m) Y O (aa:n-1<n+1);have a7:=I5 (post:=m) Y O (aa:n-2<n+1);have i1:((n:Int)-1).toNat=n-1:=aa;have i2:((n:Int)-2).toNat=n-2:=aa;generalize P++u++m=L at*
 obtain⟨V,cd⟩:∃V,V=W.val dv:=⟨_,rfl⟩;obtain⟨U,cb⟩:∃V,V=W.val u:=⟨_,rfl⟩;rw[←cd]at B hlt⊢;rw[←cb]at j hlt⊢;generalize a':dv.getD (n-1) 0=a at*
 generalize ba:dv.getD (n-2) 0=s at*
 generalize W.val (dv.take (n-2))=d3 at*
 generalize W.val (u.take (n-2))=d2 at*
 generalize u.getD n 0=w at*
 generalize u.getD (n-1) 0=u1 at*
 generalize u.getD (n-2) 0=u2 at*
 generalize hW:18446744073709551616^(n-2)=c2 at*
 have hw:=ahk B j hlt ab G;have dd:0<V:=by
  rcases qH V with e|e
  ·rw[e]at hlt;omega
  ·exact e
 have c0:U/V<18446744073709551616:=s9 hlt;have ar:U/V*V≤U:=vg _ _;obtain⟨q,eq⟩:∃q,q=U/V:=⟨_,rfl⟩;rw[←eq]at c0 ar⊢;refine bg alX ?_;by_cases K:a≤w
 ·simp(disch:=omega)only[go_sem,G7,G_,Hg,Hf,hn,aQ,gw,cR,i1,i2,dB,bN,T,gn,a',ba,df];exact⟨trivial,18446744073709551615,rfl,aa,aa,ahm B j ab G aa K rfl aa,trivial⟩
 ·have bi:w<a:=aa;simp(disch:=omega)only[go_sem,G7,G_,Hg,Hf,Vz,hn,aQ,gw,cR,i1,i2,dB,bN,T,gn,BA,a',ba,dt];refine⟨trivial,?_⟩;refine use (Be w u1 a bi a2 b1) ?_;obtain⟨C,bd⟩:∃t,t=w*18446744073709551616+u1:=⟨_,rfl⟩;rw[←bd]at j⊢;have hl:=W.BI B j be ca aa ar;have hm:=eK C (aa:0<a);have a9:=iN C a;rw[b3]at a9;have ci:C/a<18446744073709551616:=by
   rw[bd];exact KX aa bi a2
  simp(disch:=omega)only[go_sem,Vy];refine bW (fun k y z=>∃r:Nat,rd 0 y=.slice b o (n+1) c∧rd 5 y=ai (n:Int)∧rd 6 y=az (a:Int)∧rd 7 y=az (s:Int)∧rd 8 y=az (k:Int)∧rd 9 y=az (r:Int)∧C=k*a+r∧q≤k∧r<18446744073709551616∧k<18446744073709551616∧z=H) (C/a) ⟨C%a,?_,?_,?_,?_,?_,?_,a9.symm,hl,aa,ci,rfl⟩ ?_
  iterate 6 simp only[go_sem]
  rintro h y z ⟨r,R,S,f6,D,i,E,ht,hq,hr,M,rfl⟩;unfold Vx;have F:=BW h s M G;have cp:=wv M G;have a0:h*s≤r*18446744073709551616+u2→(h-1)*V≤U:=fun K=>W.BK B j ab aa ht M K
  have l:r*18446744073709551616+u2<h*s→q<h:=fun K=>W.BJ B j be ar ht K
  have next:q<h→C=(h-1)*a+(r+a):=fun hlt=>by
   obtain⟨g,rfl⟩:∃g,h=g+1:=⟨h-1,aa⟩;rw[ht,cZ,fM,pL];omega
  have bv:q<h→18446744073709551616≤r+a→(h-1-1)*V≤U:=fun hlt dl=>by
   refine W.BK B j ab aa (next hlt) aa ?_
   have:=wv (x:=h-1) (y:=s) aa G;omega
  obtain⟨p,a3⟩:∃p,p=h*s:=⟨_,rfl⟩;rw[←a3]at F cp a0 l;clear a3;have c1:q<h→aG .u64 ((h:Int)-1)=((h-1:Nat):Int):=fun hlt=>by rw[cj _ aa];omega
  have b0:r*18446744073709551616+u2<p→∀f:Fr,rd 0 f=.slice b o (n+1) c→rd 5 f=ai (n:Int)→rd 6 f=az (a:Int)→rd 7 f=az (s:Int)→rd 8 f=az (h:Int)→rd 9 f=az (r:Int)→
   ∀Q:X→Fr→ag→Prop,(∀d,rd 4 d=az ((h-1:Nat):Int)→18446744073709551616≤r+a→Q .ret d z)→(∀d,rd 0 d=.slice b o (n+1) c→rd 5 d=ai (n:Int)→rd 6 d=az (a:Int)→rd 7 d=az (s:Int)→rd 8 d=az ((h-1:Nat):Int)→rd 9 d=az ((r+a:Nat):Int)→r+a<18446744073709551616→Q .norm d z)→
   bT AN Q f z:=by
   intro hlt f I J A bO eV dj Q cf ch;have b2:=c1 (l hlt);by_cases N:18446744073709551616≤r+a
   ·have ws:aG .u64 ((r:Int)+(a:Int))=((r+a-18446744073709551616:Nat):Int):=by rw[gE];omega
    simp(disch:=omega)only[go_sem,AN,He,G9,G8,A,eV,dj,b2,ws,dt];refine cf _ ?_ N;simp only[go_sem]
   ·have ws:aG .u64 ((r:Int)+(a:Int))=((r+a:Nat):Int):=by rw[cj _ aa];omega
    simp(disch:=omega)only[go_sem,AN,He,G9,G8,A,eV,dj,b2,ws,df];refine ch _ ?_ ?_ ?_ ?_ ?_ ?_ aa
    iterate 6 simp only[go_sem,I,J,A,bO]
  have cs:=iN p 18446744073709551616;obtain⟨ph,a4⟩:∃x,x=p/18446744073709551616:=⟨_,rfl⟩;obtain⟨pl,ae⟩:∃x,x=p%18446744073709551616:=⟨_,rfl⟩;rw[←a4,←ae]at cs F;have dC:pl<18446744073709551616:=by rw[ae];exact eK _ aj
  clear a4 ae;by_cases da:ph<r
  ·simp(disch:=omega)only[go_sem,D,i];refine use F ?_;simp(disch:=omega)only[go_sem,xV,i,E,dt];exact⟨h,rfl,M,hq,a0 aa,trivial⟩
  ·by_cases db:ph=r
   ·by_cases j7:u2<pl
    ·simp(disch:=omega)only[go_sem,D,i];refine use F ?_;simp(disch:=omega)only[go_sem,xV,R,S,E,dt,df,aQ,cR,i2,T,dB,a7];refine b0 aa _ ?_ ?_ ?_ ?_ ?_ ?_ _ ?_ ?_
     iterate 6 simp only[go_sem,R,S,f6,D,i,E]
     ·intro d g4 N;simp only[go_sem,g4];exact⟨h-1,rfl,aa,by have:=l aa;omega,bv (l aa) N,trivial⟩
     ·intro d I J A bO eV dj ap;simp only[go_sem];have I9:=l aa;exact⟨h-1,aa,r+a,I,J,A,bO,eV,dj,next I9,aa,ap,aa,rfl⟩
    ·simp(disch:=omega)only[go_sem,D,i];refine use F ?_;simp(disch:=omega)only[go_sem,xV,R,S,i,E,dt,df,aQ,cR,i2,T,dB,a7];exact⟨h,rfl,M,hq,a0 aa,trivial⟩
   ·simp(disch:=omega)only[go_sem,D,i];refine use F ?_;simp(disch:=omega)only[go_sem,xV,E,df];refine b0 aa _ ?_ ?_ ?_ ?_ ?_ ?_ _ ?_ ?_
    iterate 6 simp only[go_sem,R,S,f6,D,i,E]
    ·intro d g4 N;simp only[go_sem,g4];exact⟨h-1,rfl,aa,by have:=l aa;omega,bv (l aa) N,trivial⟩
    ·intro d I J A bO eV dj ap;simp only[go_sem];have I9:=l aa;exact⟨h-1,aa,r+a,I,J,A,bO,eV,dj,next I9,aa,ap,aa,rfl⟩
theorem YY{P ds V U:Nat}(d:U=a+P*g)(f:a+P*z=ds+V*I)(e:ds<P)(c:g<z):U<I*V:=by
 have b:P*(g+1)≤P*z:=fc _ c;rw[bU,dQ]at b;rw[b3 I];omega
theorem agU{P ds V U b c:Nat}(m:U=a+P*g)(k:a+P*z=ds+V*I)(s:ds<P)(t:g<z)(o:b+P*c=ds+V)(y:b<P)(p:c≤1)(x:V≤P)(n:0<V)(i:(I-1)*V≤U):z=g+1∧c=1∧I-1=U/V∧b=U%V:=by
 have h:=YY m k s t;have A:0<I:=by
  rcases qH I with e|e
  ·rw[e,jE]at h;omega
  ·exact e
 obtain⟨f,rfl⟩:∃f,I=f+1:=⟨I-1,aa⟩;rw[pL]at i⊢;have j:U/V=f:=Nat.div_eq_of_lt_le i h;have u:=iN U V;have B:=eK U n;rw[j]at u;rw[bU,dQ]at k;obtain⟨d,rfl⟩:∃d,z=g+1+d:=⟨z-g-1,aa⟩;have l:P*(g+1+d)=P*g+P+P*d:=by rw[bU,bU,dQ]
 have r:d=0:=by
  rcases qH d with e|e
  ·exact e
  ·have v:P*1≤P*d:=fc _ e;have w:P*c≤P*1:=fc _ p;omega
 subst r;rw[fe]at l;have q:c=1:=by
  rcases qH c with e|e
  ·rw[e,fe]at o;omega
  ·omega
 subst q;exact⟨rfl,rfl,j.symm,aa⟩
theorem agW{P ds V U:Nat}(f:U=a+P*g)(o:a+P*z=ds+V*I)(m:z≤g)(l:V≤P)(c:0<V)(k:U/V≤I):g=z∧I=U/V∧ds=U%V:=by
 obtain⟨d,rfl⟩:∃d,g=z+d:=⟨g-z,aa⟩;rw[bU]at f;have i:I*V≤U:=by rw[b3];omega
 have b:I=U/V:=Nat.le_antisymm ((rO c).2 i) k;have j:=iN U V;have n:=eK U c;rw[←b]at j;have h:d=0:=by
  rcases qH d with e|e
  ·exact e
  ·have b:P*1≤P*d:=fc _ e;omega
 subst h;exact⟨rfl,b,aa⟩
theorem aeg(d a e dv:List Nat)(n:Nat)(Z:W.aM a)(S:W.aM dv)(a0:a.length=n)(hn:dv.length=n)(ls:(d++a++e).length<1000000)(o b C:Nat)(ho:d.length=o)(Y:(d++a++e).length=C)(c:Cap)(F:Fr)(H:ag)(R:X→Fr→ag→Prop)(P:H.get b=.cells (aT (d++a++e)) 0)
 (G:rd 11 F=.slice b 0 C c) (L:rd 13 F=ai (o:Int)) (M:rd 17 F=az 0) (I:rd 113 F=bz dv) (J:rd 114 F=ai (n:Int)) (K:rd 115 F=ai 0)
 (Q:∀m v i k,(∀t,t<17→rd t m=rd t F)→rd 17 m=az ((k:Nat):Int)→k≤1→i.length=n→W.aM i→W.val i+18446744073709551616^n*k=W.val a+W.val dv→d_ H v b (aT (d++i++e))→R (.exit 3) m v):bT (.loop Gx) R F H:=by
 refine bW (fun k f w=>∃(ds:List Nat) (g:Nat),k=n-ds.length∧ds.length≤n∧(∀t,t<17→rd t f=rd t F)∧rd 17 f=az (g:Int)∧rd 113 f=bz dv∧rd 114 f=ai (n:Int)∧rd 115 f=ai (ds.length:Int)∧g≤1∧W.aM ds∧
  W.val ds+18446744073709551616^ds.length*g=W.val (a.take ds.length)+W.val (dv.take ds.length)∧d_ H w b (aT (d++ds++(a.drop ds.length++e)))) n ⟨[],0,rfl,ck _,fun _ _=>rfl,M,I,J,K,aa,W.aM.nil,by simp[W.val],by simpa using d_.refl P⟩ ?_
 rintro k f w ⟨ds,g,rfl,al,j,A,y,p,z,B,D,u,h⟩;have N:=(j 11 aj).trans G;have O:=(j 13 aj).trans L;unfold Gx;simp only[bt]at ls Y;by_cases hi:ds.length<n
 ·have a2:=S.getD ds.length;have aw:=Z.getD ds.length;have T:=pZ (l:=a) (i:=ds.length) aa;rw[T,fm]at h;have U:=h.at;have l:(d++ds).length=o+ds.length:=by rw[bt,ho]
  have ap:o+ds.length<(aT (d++ds++a.getD ds.length 0::(a.drop (ds.length+1)++e))).length:=by rw[eD,bt,l];simp
  have ar:o+ds.length<(d++ds++a.getD ds.length 0::(a.drop (ds.length+1)++e)).length:=by rw[bt,l];simp
  have V:=oT (es:=a.drop (ds.length+1)++e) (e:=a.getD ds.length 0) l;have ac:((o:Int)+(ds.length:Int)).toNat=o+ds.length:=aa;have ad:aG .i64 ((o:Int)+(ds.length:Int))=(o:Int)+(ds.length:Int):=aQ _ aa;obtain⟨s,E⟩:∃s,s=a.getD ds.length 0+dv.getD ds.length 0+g:=⟨_,rfl⟩;have x:=tn (a:=a.getD ds.length 0) (b:=dv.getD ds.length 0) B;rw[←E]at x;simp(disch:=omega)only[go_sem,Gw,Ue,Ud,N,O,A,y,p,z,dt,gw,bN,dB,cR,ac,ad,U,V,x,gk,jI,kW l,aQ];refine⟨n-(ds.length+1),aa,ds++[s%18446744073709551616],s/18446744073709551616,aJ,by simp;omega,fun t r=>?_,?_,?_,?_,?_,aa,D.app (.mk aa W.aM.nil),?_,?_⟩
  ·simp(disch:=omega)only[cc];exact j t r
  iterate 3 simp only[go_sem,y,p]
  ·simp only[go_sem,bt,gm];rfl
  ·rw[W.fl];simp only[bt,gm,c3,W.val,fe,cO];rw[jX aa,jX aa];exact Ig u aa
  ·have:=h.set (aT (d++(ds++[s%18446744073709551616])++(a.drop (ds.length+1)++e)));simpa using this
 ·have q:ds.length=n:=aa;simp(disch:=omega)only[go_sem,Gw,p,z,df];rw[q,cq aa,cq aa]at u;rw[q,i_ aa,eM]at h;refine Q _ _ ds g (fun t r=>?_) ?_ B q D u h
  ·simp(disch:=omega)only[cc];exact j t r
  ·simp only[go_sem,A]
theorem arY{V:Nat}(c:a<18446744073709551616)(b:g<V):a+18446744073709551616*g<V*18446744073709551616:=by
 have:=dz 18446744073709551616 (show g+1≤V from b);rw[cZ]at this;omega
theorem YS{Q V X:Nat}(b:V*z+I=a+18446744073709551616*g)(h:Q*V+g=X):(z+18446744073709551616*Q)*V+I=a+18446744073709551616*X:=by
 rw[←h,cZ,cg,bU,b3 z];omega
set_option maxHeartbeats 2000000 in
theorem Iu(d dv:List Nat)(n a m:Nat)(co:W.aM d)(T:W.aM dv)(hX:d.length=a+1)(G:dv.length=n)(h2:2≤n)(hm:a+1-n=m)(fw:n≤a)(hl:a<900000)(e1:9223372036854775808≤dv.getD (n-1) 0)(f j:Nat)(hb:f≠j)(F:Fr)(H:ag)(R:X→Fr→ag→Prop)
 (dd:rd 8 F=ai (n:Int)) (c2:rd 10 F=bz dv) (c':rd 11 F=.slice f 0 (a+1) (.known (a+1))) (da:rd 12 F=.slice j 0 m (.known m)) (db:rd 13 F=ai ((m:Int)-1)) (d4:W.val (d.drop m)<W.val dv) (d0:H.get f=.cells (aT d) 0) (d1:H.get j=.cells (aT (br m 0)) 0)
 (hR:∀F' K r b,(∀t,t<13→rd t F'=rd t F)→r.length=n→W.aM r→W.aM b→b.length=m→W.val b*W.val dv+W.val r=W.val d→W.val r<W.val dv→K.get f=.cells (aT (r++br m 0)) 0→K.get j=.cells (aT b) 0→K.next=H.next→R (.exit 1) F' K):bT (.loop Gz) R F H:=by
 have bs:W.val dv<18446744073709551616^n:=by have:=W.gC T;rw[G]at this;exact this
 have P:0<W.val dv:=aa
 refine bW (fun k V L=>∃(r b:List Nat),k≤m∧(∀t,t<13→rd t V=rd t F)∧rd 13 V=ai ((k:Int)-1)∧r.length=n∧W.aM r∧W.aM b∧b.length=m-k∧W.val b*W.val dv+W.val r=W.val (d.drop k)∧W.val r<W.val dv∧L.get f=.cells (aT (d.take k++r++br (m-k) 0)) 0∧L.get j=.cells (aT (br k 0++b)) 0∧L.next=H.next) m
  ⟨d.drop m,[],aR _,fun _ _=>rfl,db,by rw[gF];omega,co.drop _,W.aM.nil,aJ,by simp[W.val],d4,by rw[lV,oB,fA,oC];exact d0,by rw[fA];exact d1,rfl⟩ ?_
 rintro k V L ⟨r,b,hk,q,o,hr,c0,a',ev,hv,cf,l,S,cb⟩;have C:=(q 8 aj).trans dd;have Z:=(q 10 aj).trans c2;have v:=(q 11 aj).trans c';have bj:=(q 12 aj).trans da;unfold Gz;cases k with
 |zero=>
  simp(disch:=omega)only[go_sem,o];rw[nK,eM,Nat.sub_zero]at l;rw[oB,eM]at S;refine hR _ _ r b (fun t s=>?_) hr c0 a' ev hv cf l S cb;simp(disch:=omega)only[cc];exact q t s
 |succ i=>
  have ca:i<d.length:=aa;have a3:List.take (i+1) d=d.take i++[d.getD i 0]:=uQ ca;have hx:=co.getD i;have am:=W.sX ca;obtain⟨x,ex⟩:∃x,x=d.getD i 0:=⟨_,rfl⟩;rw[←ex]at a3 hx am;have y:(d.take i).length=i:=gK aa;obtain⟨g,Y⟩:∃p,p=d.take i:=⟨_,rfl⟩;rw[←Y]at a3 y;obtain⟨z,dl⟩:∃z,z=m-(i+1):=⟨_,rfl⟩;rw[←dl]at l;have bo:W.val (x::r)<W.val dv*18446744073709551616:=arY hx cf;have U:W.aM (x::r):=.mk hx c0;have ch:(x::r).length=n+1:=by simp[hr]
  have ed:g++[x]++r++br z 0=g++(x::r)++br z 0:=aJ;rw[a3,ed]at l;have ac:W.val (x::r)=x+18446744073709551616*W.val r:=rfl;obtain⟨u,dk⟩:∃u,u=x::r:=⟨_,rfl⟩;rw[←dk]at l bo U ch ac;have a2:u=u.take n++[u.getD n 0]:=by
   rw[←uQ aa,cq aa]
  have cs:=U.take n;have a0:(u.take n).length=n:=gK aa;have s:=U.getD n;obtain⟨a8,em⟩:∃p,p=u.take n:=⟨_,rfl⟩;obtain⟨t,et⟩:∃p,p=u.getD n 0:=⟨_,rfl⟩;rw[←em,←et]at a2;rw[←em]at cs a0;rw[←et]at s;have ab:W.val u=W.val a8+18446744073709551616^n*t:=by
   rw[a2,W.fl,a0];simp[W.val]
  have eh:g++u++br z 0=g++a8++t::br z 0:=by rw[a2];simp
  have d9:(((i+1:Nat):Int)-1)=(i:Int):=aa;rw[d9]at o;have J:aG .i64 ((i:Int)+(n:Int))=(i:Int)+(n:Int):=aQ _ aa;have e':aG .i64 ((i:Int)+(n:Int)+1)=(i:Int)+(n:Int)+1:=aQ _ aa;have eQ:slice3 (jA 1) true true false [.slice f 0 (a+1) (.known (a+1)),ai (i:Int),ai ((i:Int)+(n:Int)+1)]=some (.val (.slice f i (n+1) (.known (a+1-i)))):=by
   rw[Cz aa];congr 3<;>omega
  have e0:slice3 (jA 1) true true false [.slice f 0 (a+1) (.known (a+1)),ai (i:Int),ai ((i:Int)+(n:Int))]=some (.val (.slice f i n (.known (a+1-i)))):=by
   rw[Cz aa];congr 3<;>omega
  simp(disch:=omega)only[go_sem,Uf,C,Z,v,o,df,J,e',eQ];refine(ahj g u (br z 0) dv n U T G ch h2 (by simp;omega) aa e1 bo i f y _ _ l).mono ?_;rintro _ _ ⟨h,rfl,b',es,d8,rfl⟩;simp(disch:=omega)only[go_sem,C,Z,v,o,J,e0];rw[eh]at l;refine(aqS g a8 (t::br z 0) dv h n cs T b' G a0 (by simp;omega) i f y _ _ l).mono ?_;rintro _ H2 ⟨ds,k,rfl,fn,Q,a9,a6,N⟩;have bv:W.val ds<18446744073709551616^n:=by have:=W.gC a9;rw[Q]at this;exact this
  have ar:=N.at;have aw:H2.get j=.cells (aT (br (i+1) 0++b)) 0:=by rw[N.get,au (fun e=>hb e.symm)];exact S
  have cd:H2.next=H.next:=N.next.trans cb
  clear N S l;have D:(g++ds).length=i+n:=by rw[bt,y,Q]
  have fr:i+n<(aT (g++ds++t::br z 0)).length:=by rw[eD,bt,D];simp
  have fs:i+n<(g++ds++t::br z 0).length:=by rw[bt,D];simp
  have b1:=oT (es:=br z 0) (e:=t) D;have a4:((i:Int)+(n:Int)).toNat=i+n:=aa;have fx:(aT (br (i+1) 0++b)).length=m:=by rw[eD];simp;omega
  have ae:j≠f:=fun e=>hb e.symm
  have ci:m-i=z+1:=aa;by_cases hc:t<k
  ·have wt:aG .u64 ((t:Int)-(k:Int))=((t+18446744073709551616-k:Nat):Int):=by rw[gE];omega
   have ft:((t:Nat):Int)<(k:Int):=aa;have d3:=YY ab a6 bv hc;have fg:0<h:=by
    rcases qH h with e|e
    ·rw[e,jE]at d3;omega
    ·exact e
   have fa:aG .u64 ((h:Int)-1)=((h-1:Nat):Int):=by rw[cj _ aa];omega
   simp(disch:=omega)only[go_sem,C,Z,v,o,J,a4,ar,b1,dB,cR,wt,gk,jI,kW D,dt,fa];refine aeg g ds ((t+18446744073709551616-k)::br z 0) dv n a9 T Q G (by simp;omega) i f (a+1) y (by simp;omega) (.known (a+1)) _ _ _ ?_ ?_ ?_ ?_ ?_ ?_ ?_ ?_
   ·rw[ag.a_,ay rfl]
   iterate 6 simp only[go_sem,v,o,G]
   intro A H3 B c w aib d5 ap cp e2 O;have d6:W.val B<18446744073709551616^n:=by have:=W.gC cp;rw[ap]at this;exact this
   obtain⟨d',fd,hq,I⟩:=agU ab a6 bv hc e2 d6 d5 (hD bs) P d8;have b0:=O.at;have d7:H3.get j=.cells (aT (br (i+1) 0++b)) 0:=by rw[O.get,au ae,ag.a_,au hb];exact aw
   have el:H3.next=H.next:=O.next.trans cd
   clear O ar aw;have h8:rd 8 A=ai (n:Int):=(w 8 aj).trans (by simp only[go_sem,C]);have dp:rd 11 A=.slice f 0 (a+1) (.known (a+1)):=(w 11 aj).trans (by simp only[go_sem,v]);have dq:rd 12 A=.slice j 0 m (.known m):=(w 12 aj).trans (by simp only[go_sem,bj]);have du:rd 13 A=ai (i:Int):=(w 13 aj).trans (by simp only[go_sem,o]);have dC:rd 14 A=az ((h-1:Nat):Int):=(w 14 aj).trans (by simp only[go_sem]);have M:(g++B).length=i+n:=by rw[bt,y,ap]
   have ea:i+n<(aT (g++B++(t+18446744073709551616-k)::br z 0)).length:=by rw[eD,bt,M];simp
   have eb:i+n<(g++B++(t+18446744073709551616-k)::br z 0).length:=by rw[bt,M];simp
   have b2:=oT (es:=br z 0) (e:=t+18446744073709551616-k) M;have c1:aG .u64 (((t+18446744073709551616-k:Nat):Int)+(c:Int))=((0:Nat):Int):=by rw[gE];omega
   have eq:h-1<18446744073709551616:=aa;rw[d']at b2 ea eb b0 c1;rw[fu];simp(disch:=omega)only[go_sem,Gy,h8,dp,dq,du,dC,aib,J,a4,b0,d7,b2,dB,cR,c1,gk,jI,kW M,au,bN,Kn,aQ];have E:=iN (W.val u) (W.val dv);rw[←hq,←I,ac]at E;refine⟨i,aa,B,(h-1)::b,aa,fun t s=>?_,?_,ap,cp,.mk eq a',by simp;omega,?_,by rw[I];exact eK _ P,?_,?_,el⟩
   ·simp(disch:=omega)only[cc];refine(w t aa).trans ?_;simp(disch:=omega)only[cc];exact q t s
   ·simp only[go_sem]
   ·rw[am,←hv];exact YS E rfl
   ·rw[ag.a_,au ae,ag.a_,ay rfl,Y,ci,oA]
   ·rw[ag.a_,ay rfl]
  ·obtain⟨f0,hq,I⟩:=agW ab a6 (ja hc) (hD bs) P es;have wt:aG .u64 ((t:Int)-(k:Int))=((0:Nat):Int):=by rw[gE];omega
   simp(disch:=omega)only[go_sem,Gy,C,v,bj,o,J,a4,ar,aw,b1,dB,cR,wt,gk,jI,kW D,df,au,bN,Kn,aQ];have E:=iN (W.val u) (W.val dv);rw[←hq,←I,ac]at E;refine⟨i,aa,ds,h::b,aa,fun t s=>?_,?_,Q,a9,.mk b' a',by simp;omega,?_,by rw[I];exact eK _ P,?_,?_,cd⟩
   ·simp(disch:=omega)only[cc];exact q t s
   ·simp only[go_sem]
   ·rw[am,←hv];exact YS E rfl
   ·rw[ag.a_,au ae,ag.a_,ay rfl,Y,ci,oA]
   ·rw[ag.a_,ay rfl]
theorem lM(n:Nat)(c:n≠0):∃r,n=(ax n).getD ((ax n).length-1) 0*18446744073709551616^((ax n).length-1)+r∧r<18446744073709551616^((ax n).length-1):=by
 have d:=(iE n).2 c;have h:=W.pB (l:=ax n) (i:=(ax n).length-1) aa;rw[fT]at h;have b:(ax n).drop ((ax n).length-1+1)=[]:=i_ aa;rw[b]at h;have a:=W.gC ((fV n).take ((ax n).length-1));rw[gK aa]at a;refine⟨_,?_,a⟩;simp only[W.val,fe,cO]at h;rw[b3 _ (18446744073709551616^_),iy];exact h
theorem CN(n:Nat)(b:n≠0):(ax n).getD ((ax n).length-1) 0≠0:=by
 have a:=(iE n).2 b;intro h;have f:=Bj n;have d:=W.bM.pos f (fun e=>by rw[e]at a;exact absurd a aj);rw[fT]at d;obtain⟨r,c,g⟩:=lM n b;rw[h,jE]at c;omega
theorem B1(e:a≠0)(s:g≤63)(h:(ax a).getD ((ax a).length-1) 0*2^g<18446744073709551616):(ax (a*2^g)).length=(ax a).length:=by
 obtain⟨r,n,o⟩:=lM a e;have p:=(iE a).2 e;have c:0<2^g:=e8 aj;have q:=kN (m:=a) (n:=a*2^g) (Nat.le_mul_of_pos_right a c);have u:(ax (a*2^g)).length≤(ax a).length:=by
  refine tR ?_;generalize(ax a).getD ((ax a).length-1) 0=t at*
  have l:(18446744073709551616:Nat)^(ax a).length=18446744073709551616*18446744073709551616^((ax a).length-1):=by
   rw[(aa:(ax a).length=(ax a).length-1+1),c3,b3,pL]
  rw[l];generalize(18446744073709551616:Nat)^((ax a).length-1)=P at*
  have b:=q_ (s:=g) aa;have m:t+1≤2^(64-g):=by
   rw[b]at h;exact rP h
  have f:(t+1)*2^g≤18446744073709551616:=by
   have d:=dz (2^g) m;rw[←b]at d;exact d
  have i:a<(t+1)*P:=by rw[cZ,fM];omega
  have j:a*2^g<(t+1)*P*2^g:=ng i c;have k:(t+1)*P*2^g≤18446744073709551616*P:=by
   rw[rR];exact dz P f
  exact ei j k
 omega
theorem yy(c:a≠0)(m:g≤63)(i:9223372036854775808≤(ax a).getD ((ax a).length-1) 0*2^g)(h:(ax a).getD ((ax a).length-1) 0*2^g<18446744073709551616):9223372036854775808≤(ax (a*2^g)).getD ((ax a).length-1) 0:=by
 have j:=B1 c m h;have q:0<2^g:=e8 aj;have l:a*2^g≠0:=tf c aa;obtain⟨r,o,p⟩:=lM a c;obtain⟨s,e,f⟩:=lM (a*2^g) l;rw[j]at e f;generalize(ax a).getD ((ax a).length-1) 0=t at*
 generalize(ax (a*2^g)).getD ((ax a).length-1) 0=n at*
 generalize(18446744073709551616:Nat)^((ax a).length-1)=P at*
 refine cI i (ja fun k=>?_);have d:(n+1)*P≤t*2^g*P:=dz P k;rw[cZ,fM]at d;have b:t*P*2^g≤a*2^g:=dz _ aa;rw[rR]at b;omega
theorem Kt{X P V:Nat}(c:X<P*a*g)(d:X=z+P*I)(b:a*g≤V):I<V:=by
 have h:P*I<P*(a*g):=by rw[←cg];omega
 exact ei (Nat.lt_of_mul_lt_mul_left h) b
theorem agD(m n:Nat)(g:n≠0)(lm:(ax m).length<100000)(ln:(ax n).length<100000):bA 310 [bz (ax m),bz (ax n)] (.aK [bz (ax (m/n)),bz (ax (m%n))]):=by
 refine e3 (.cons (dA _) (.cons (dA _) .nil)) (bg Jh ?_);have a4:=(iE n).2 g;simp(disch:=omega)only[go_sem,Ay,AF];refine use (tJ m n aa aa) ?_;by_cases p:m<n
 ·rw[mK aa];simp(disch:=omega)only[go_sem,dt];rw[lT p,jr p,js];exact⟨_,.aK (.cons .fQ (.cons (.same _) .nil)),.aK (.cons (.row 0 .nil) (.cons (dA _) .nil)),rfl⟩
 have bv:¬eX (m:Int) (n:Int)<0:=by
  rcases Nat.lt_or_eq_of_le (ja p)with h|h
  ·rw[mJ aa];decide
  ·rw[A9 aa];decide
 by_cases I:(ax n).length=1
 ·have a3:dY none 1 [bz (ax n),ai 0]=some (.val (.dm (aT (ax n)) 0)):=gw ⟨aj,aa⟩;have R:(ax n).getD 0 0=n:=by
   obtain⟨r,F,G⟩:=lM n g;rw[I]at F G;simp only[lV,mF,dQ]at F G;omega
  have z:=(fV n).getD 0;rw[R]at z;simp(disch:=omega)only[go_sem,df,dt,a3,dB,R];refine use (agF (ax m) n (fV m) ⟨aa,z⟩ aa) ?_;simp(disch:=omega)only[go_sem,fT];refine use (Bu (m%n) (oG (eK _ aa) z)) ?_;simp(disch:=omega)only[go_sem];exact g8 rfl (.aK (.cons (dA _) (.cons (dA _) .nil)))
 have J:2≤(ax n).length:=aa;have y:(ax n).length≤(ax m).length:=kN (ja p);obtain⟨D,f⟩:∃t,t=(ax n).getD ((ax n).length-1) 0:=⟨_,rfl⟩;have U:=CN n g;have B:=(fV n).getD ((ax n).length-1);rw[←f]at U B;obtain⟨e,N,v⟩:=yo (y:=D) U B;have Q:=ym D B;obtain⟨s,S⟩:∃s,s=64-eB D:=⟨_,rfl⟩;rw[←S]at e N v Q;clear S;have o:0<2^s:=e8 aj;have w:=B1 g e (by rw[←f];exact v);have x:=yy g e (by rw[←f];exact N) (by rw[←f];exact v);have a1:aG .u64 ((s:Nat):Int)=(s:Int):=cj _ aa;have V:aG .i64 (((ax n).length:Int)-1)=((ax n).length:Int)-1:=aQ _ aa;have T:(((ax n).length:Int)-1).toNat=(ax n).length-1:=aa;obtain⟨c,k⟩:∃l,l=(ax m).length:=⟨_,rfl⟩;obtain⟨l,H⟩:∃l,l=(ax n).length:=⟨_,rfl⟩;rw[←k]at y lm;rw[←H]at a4 ln I J y f w x V T;have K:(ax (m*2^s)).length≤c+1:=by
  refine tR ?_;have a:=mN m;rw[←k]at a;have b:2^s≤18446744073709551616:=by rw[q_ (s:=s) aa];exact Nat.le_mul_of_pos_left _ (e8 aj)
  rw[c3];exact ei (ng a o) (fc _ b)
 simp(disch:=omega)only[go_sem,AE,AD,df,←H,V,gw,T,dB,←f];refine use Q ?_;simp(disch:=omega)only[go_sem,AB,a1];refine use (wM n s e aa) ?_;have bb:aG .i64 ((c:Int)+1)=(c:Int)+1:=aQ _ aa;have ba:((c:Int)+1).toNat=c+1:=aa;simp(disch:=omega)only[go_sem,AA,Az,←k,bb,iH,ba,nC];refine use (wM m s e aa) ?_;simp(disch:=omega)only[go_sem];refine Bm (cs:=aT (br (c+1) 0)) (by simp only[go_sem]) K (by rw[eD];simp) ?_;obtain⟨d,i⟩:∃X,X=ax (m*2^s)++br (c+1-(ax (m*2^s)).length) 0:=⟨_,rfl⟩;have L:aT (ax (m*2^s))++(aT (br (c+1) 0)).drop (ax (m*2^s)).length=aT d:=by
  rw[i,w_];congr 1;rw[aT,←List.map_drop,List.drop_replicate];rfl
 have bj:W.aM d:=by rw[i];exact(fV _).app (sF _)
 have a0:d.length=c+1:=by rw[i];simp;omega
 have M:W.val d=m*2^s:=by rw[i,W.fl,rE,fT,fe,cO]
 rw[L];clear L i K;obtain⟨j,ad⟩:∃j,c+1-l=j:=⟨_,rfl⟩;have bc:aG .i64 ((c:Int)-(l:Int))=(j:Int)-1:=by rw[aQ _ aa];omega
 have bd:aG .i64 ((j:Int)-1+1)=(j:Int):=by rw[aQ _ aa];omega
 simp(disch:=omega)only[go_sem,AI,AH,←k,bc,bd,iH,nC,bN];have ar:W.val (d.drop j)<W.val (ax (n*2^s)):=by
  have Y:=W.oh d j aa;rw[M]at Y;have a:=mN m;rw[←k,(aa:c=j+(l-1)),fX]at a;have b:=ng a o;obtain⟨r,E,_⟩:=lM (n*2^s) (tf g aa);rw[w]at E;refine Kt b Y ?_;rw[fT,E];have am:2^s≤9223372036854775808:=cI (fN aj e) aj;have c2:=dz (18446744073709551616^(l-1)) (cI am x);rw[b3];exact cI c2 (qI _ _)
 refine Iu d (ax (n*2^s)) l c j bj (fV _) a0 w J ad y aa x 5 6 aj _ _ _ ?_ ?_ ?_ ?_ ?_ ar ?_ ?_ ?_
 iterate 7 simp only[go_sem]
 intro q H3 r Z u hr bs bo a7 C A a2 O b0;have h9:rd 9 q=az (s:Int):=(u 9 aj).trans (by simp only[go_sem]);have ae:rd 11 q=.slice 5 0 (c+1) (.known (c+1)):=(u 11 aj).trans (by simp only[go_sem]);have al:rd 12 q=.slice 6 0 j (.known j):=(u 12 aj).trans (by simp only[go_sem]);rw[fu];rw[M,fT]at C;rw[fT]at A;have aw:0<n*2^s:=Nat.mul_pos aa o;have hq:W.val Z=m/n:=by
  rw[←Nat.mul_div_mul_right m n o,←C,b3,Nat.mul_add_div aw,lT A,cO]
 have a9:W.val r=m%n*2^s:=by
  rw[←qJ,←C,b3,Nat.mul_add_mod,jr A]
 simp(disch:=omega)only[go_sem,AG,al];refine iL (pz Z aa) O ⟨0,_,_,dH.2 rfl⟩ (.cons (oS O (by rw[ag.a_,ay rfl]) a7) .nil) ?_;simp(disch:=omega)only[go_sem,ae];have P:(H3.set 6 .none).get 5=.cells (aT (r++br j 0)) 0:=by rw[ag.a_,au aj];exact a2
 have a5:(r++br j 0).length=c+1:=by simp;omega
 refine iL (pz (r++br j 0) aa) P ⟨0,_,_,dH.2 rfl⟩ (.cons (oS P (by rw[ag.a_,ay rfl]) a5) .nil) ?_;have a':W.trim (r++br j 0)=ax (m%n*2^s):=by
  rw[kX (bs.app (sF _)),W.fl,rE,fe,cO,a9]
 rw[a',kX bo,hq];have a8:(ax (m%n*2^s)).length<100000:=by
  have:=kN (m:=m%n*2^s) (n:=n*2^s) (dz _ (hD (eK _ aa)));omega
 simp(disch:=omega)only[go_sem,h9];refine use (aqc (m%n*2^s) s e a8) ?_;rw[td _ o];simp(disch:=omega)only[go_sem];exact g8 rfl (.aK (.cons (dA _) (.cons (dA _) .nil)))
theorem agG(m n:Nat)(a:n≠0)(b:(ax m).length<80)(c:(ax n).length<80):bA 250 [bz (ax m),bz (ax n)] (.aK [bz (ax (m/n)),bz (ax (m%n))]):=by
 refine cT (.cons (dA _) (.cons (dA _) .nil)) (.aK (.cons (dA _) (.cons (dA _) .nil))) (bg Jf ?_);simp(disch:=omega)only[go_sem,Ad,Af,Ae,dt];refine use (agD m n a aa aa) ?_;simp only[go_sem]
end Go.Proofs.YtddhncjmaahodaaGreatDoor
namespace Go.aE
mutual
inductive ni (b:Nat):V→V→Prop
 |any (v:V):ni b v .any
 |int (k:IntKind) (n:Int):ni b (.int k n) (.int k n)
 |bool (x:Bool):ni b (.bool x) (.bool x)
 |str (s:List UInt8):ni b (.str s) (.str s)
 |ak:ni b .ak .ak
 |slice (o n:Nat) (c:Cap):ni b (.slice b o n c) (.slice b o n c)
 |e4:ni b (.row 0 []) (.row 0 [])
 |aK {xs ys:List V} (h:vi b xs ys):ni b (.aK xs) (.aK ys)
 |agg {xs ys:List V} (h:vi b xs ys):ni b (.agg xs) (.agg ys)
inductive vi (b:Nat):List V→List V→Prop
 |nil:vi b [] []
 |cons {x y:V}{xs ys:List V} (h:ni b x y) (h':vi b xs ys):vi b (x::xs) (y::ys)
end
mutual
theorem aS.uB{φ ψ:aO}{b:Nat}(hb:∀l,φ b=some l→ψ b=some l):∀ {v v2:V}{v':Value},ni b v v2→aS φ v v'→aS ψ v2 v'
 |_,_,v',.any _,_=>.any v'
 |_,_,_,.int _ _,.int k n=>.int k n
 |_,_,_,.bool _,.bool x=>.bool x
 |_,_,_,.str _,.str s=>.str s
 |_,_,_,.ak,.ak=>.ak
 |_,_,_,.slice _ _ _,.slice h h1 h2=>.slice (hb _ h) h1 h2
 |_,_,_,.e4,.e4 a c h=>.e4 a c h
 |_,_,_,.e4,.row _ _ _ _=>.e4 _ _ (fun h=>by cases h)
 |_,_,_,.aK h,.aK g=>.aK (bC.uB hb h g)
 |_,_,_,.agg h,.agg g=>.agg (bC.uB hb h g)
theorem bC.uB{φ ψ:aO}{b:Nat}(hb:∀l,φ b=some l→ψ b=some l):∀ {v v2:List V}{v':List Value},vi b v v2→bC φ v v'→bC ψ v2 v'
 |_,_,_,.nil,.nil=>.nil
 |_,_,_,.cons h h',.cons g g'=>.cons (aS.uB hb h g) (bC.uB hb h' g')
end
section
variable {P:Program}{G:Nat}
theorem Bb(H:ag):Cut 0 H (ag.zero H.next):=⟨fun _=>.inr ⟨ck _,ag.gf _ _⟩,rfl,fun _ _ _ _ _ _ _ _ _=>ag.gf _ _⟩
variable{A:FuncId}{b:List V}{c:ag}
theorem Yl{ap:List V}{R:V→Nat→List V→Prop}(ha:dy c (ag.zero c.next) b ap)
 (hc:e6 P G (.fn A) ap (ag.zero c.next) fun v1 D=>∃v j u,ni j v1 v∧c.next≤j∧j<D.next∧D.get j=.cells u 0∧(∀x∈u,∃k n,x=.int k n)∧R v j u):
 e6 P G (.fn A) b c fun v D=>∃j u,R v j u∧c.next≤j∧j<D.next∧∀y,D.get y=if y=j then .cells u 0 else c.get y:=by
 refine⟨hc.1,fun C w a5 r hg a'=>(hc.2 (C.dr c (ag.zero c.next) w) w a5 (r.cut (Bb c)) hg (bC.dr r (Bb c) ha a')).mono ?_⟩
 rintro e w' ⟨v1,v',D,ψ,rfl,q,b1,v,j,u,bo,X,ba,ab,bv,hR⟩;have bi:=tZ (H2:=ag.zero c.next) r
 have ad:c.next≤D.next:=q.next
 have T:C j=none:=(r.top X).1;have ae:∀ {y:Nat}{l:Loc},C y=some l→w'.heap[l.c]? =w.heap[l.c]? :=fun{y l} d=>(q.iU (show(C.dr c (ag.zero c.next) w) y=some l from d) (ag.gf _ _)).2
 have Q:∀ {l:Loc},ψ j=some l→w.heap.size≤l.c:=by
  intro l d;rcases(q.fresh (show(C.dr c (ag.zero c.next) w) j=none from T) d).2 with h|⟨b0,l0,p,z⟩
  ·exact h
  ·have aw:C b0=some l0:=p;have bj:b0≠j:=fun e=>by rw[e,T]at aw;cases aw
   rcases q.rel.inj (q.le _ _ p) d z bj with⟨_,_,g,_,B,_⟩|⟨_,B⟩
   ·rw[(q.iU p (ag.gf _ _)).1]at B;cases B
   ·rw[ab]at B;cases B
 let M:aO:=⟨fun y=>if y=j then ψ j else C y,C.im⟩;let K:ag:=⟨(c.set j (.cells u 0)).m,D.next⟩
 have Y:∀y,K.get y=if y=j then .cells u 0 else c.get y:=by
  intro y;show(c.set j (.cells u 0)).get y=_;rw[ag.a_];by_cases f:y=j
  ·rw[ay f.symm,ay f]
  ·rw[au (fun e=>f e.symm),au f]
 have s:∀ {y:Nat},y≠j→K.get y=c.get y:=fun{y} h=>by rw[Y,au h]
 have F:K.get j=.cells u 0:=by rw[Y,ay rfl]
 have E:M j=ψ j:=ay rfl;have t:∀ {y:Nat},y≠j→M y=C y:=fun{y} h=>au h
 have ac:C.le M:=⟨fun y l e=>by
  have f:y≠j:=fun h=>by rw[h,T]at e;cases e
  rw[t f];exact e,fun _ _ e=>e⟩
 have bs:Rel M K w':=by
  refine⟨?_,?_,?_,?_,?_,?_,?_,?_,?_,?_,?_⟩
  ·intro y l U g i x d p z I;by_cases f:y=j
   ·subst f;rw[F]at p;cases p;rw[E]at d;obtain⟨x',J,B⟩:=q.rel.cell d ab rfl I;obtain⟨k,n,rfl⟩:=bv x (er I);refine⟨x',J,?_⟩;cases B;exact .int _ _
   ·rw[s f]at p;rw[t f]at d;have hl:c.gh y g=true:=by
     rcases gi.1 z with e|⟨a,H,W,a6⟩
     ·exact gi.2 (.inl e)
     ·refine gi.2 (.inr ⟨a,H,?_,a6⟩);have bc:g≠j:=fun h=>by rw[h,F]at W;cases W
      rw[←s bc];exact W
    obtain⟨x',J,B⟩:=r.cell d p hl I;refine⟨x',?_,B.mono ac⟩;unfold World.cell? at J⊢;rw[ae d];exact J
  ·intro y l i d p;by_cases f:y=j
   ·subst f;rw[E]at d;exact q.rel.room d p
   ·rw[t f]at d;exact q.same.free (r.room d p)
  ·intro y l U g d p;by_cases f:y=j
   ·subst f;rw[F]at p;cases p;rw[E]at d;exact q.rel.len d ab
   ·rw[s f]at p;rw[t f]at d;exact r.len d p
  ·intro y y' l l' d p z I;by_cases f:y=j
   ·subst f;have L:y'≠y:=fun e=>I e.symm
    rw[E]at d;rw[t L]at p;have N:=Q d;have O:=r.loc p;omega
   ·by_cases L:y'=j
    ·subst L;rw[E]at p;rw[t f]at d;have N:=Q p;have O:=r.loc d;omega
    ·rw[s f,s L];rw[t f]at d;rw[t L]at p;exact r.inj d p z I
  ·intro y f;have b2:D.next≤y:=f
   have a1:y≠j:=aa;rw[t a1,s a1];exact r.top (cI ad b2)
  ·intro y l d;by_cases f:y=j
   ·subst f;rw[E]at d;exact q.rel.loc d
   ·rw[t f]at d;exact ei (r.loc d) q.size
  ·intro y U g ca a7 d p z;have f:y≠j:=fun h=>by
    rw[h,F]at d;cases d;exact p rfl
   have Z:g≠j:=fun h=>by rw[h,F]at z;cases z
   rw[s f]at d;rw[s Z]at z;exact r.mem d p z
  ·intro g ca a7 d;have Z:g≠j:=fun h=>by rw[h,F]at d;cases d
   rw[s Z]at d;exact r.lp d
  ·intro y l o d p;have f:y≠j:=fun h=>by rw[h,F]at p;cases p
   rw[s f]at p;rw[t f]at d;obtain⟨J,B⟩:=r.cv d p;exact⟨J,B.mono ac (ae d)⟩
  ·intro H x d;have S:=r.fj (show C.im H=some x from d);have bd:=q.rel.fj (q.le.im H x (bi.im H x d));refine S.keep (bd.obj.trans S.obj.symm) fun y l p z=>?_
   by_cases f:y=j
   ·subst f;rw[E]at p;have N:=Q p;have O:=S.lt;omega
   ·rw[t f]at p;rw[s f];exact S.off y l p z
  ·intro y U g d;show g<D.next
   by_cases f:y=j
   ·subst f;rw[F]at d;cases d;omega
   ·rw[s f]at d;exact ei (r.lu d) ad
 refine⟨v,v',K,M,rfl,⟨bs,ac,?_,?_,ad,fun N O=>q.kR N O,q.size,q.same,?_,fun H x e=>.inl e⟩,aS.uB (fun l e=>by rw[E];exact e) bo b1,j,u,hR,X,ba,Y⟩
 ·intro y l d p;by_cases f:y=j
  ·subst f;rw[E]at p;exact⟨X,.inl (Q p)⟩
  ·rw[t f,d]at p;cases p
 ·intro y f _ _;exact s aa
 ·intro y l d p;have f:y≠j:=fun h=>by rw[h,T]at d;cases d
  exact⟨by rw[s f];exact p,ae d⟩
theorem vG{B:List V}{R:V→Prop}(J:dy c (ag.zero c.next) b B)
 (C:e6 P G (.fn A) B (ag.zero c.next) fun D _=>∃v,(∀n,ni n D v)∧R v):
 e6 P G (.fn A) b c fun v k=>R v∧k=c:=by
 refine⟨C.1,fun j w F d L K=>(C.2 (j.dr c (ag.zero c.next) w) w F (d.cut (Bb c)) L (bC.dr d (Bb c) J K)).mono ?_⟩
 rintro e E ⟨D,T,k,X,rfl,h,S,v,O,I⟩;have N:=tZ (H2:=ag.zero c.next) d
 have u:∀ {y:Nat}{l:Loc},j y=some l→E.heap[l.c]? =w.heap[l.c]? :=fun{y l} a=>(h.iU (show(j.dr c (ag.zero c.next) w) y=some l from a) (ag.gf _ _)).2
 have Q:Rel j c E:=by
  refine⟨?_,fun a f=>h.same.free (d.room a f),d.len,d.inj,d.top,fun a=>ei (d.loc a) h.size,d.mem,d.lp,?_,?_,d.lu⟩
  ·intro n l W g i x a f q H;obtain⟨U,m,z⟩:=d.cell a f q H;refine⟨U,?_,z⟩;unfold World.cell? at m⊢;rw[u a];exact m
  ·intro n l o a f;obtain⟨m,z⟩:=d.cv a f;exact⟨m,z.mono (aO.le_refl j) (u a)⟩
  ·intro p x a;have t:=d.fj a;have M:=h.rel.fj (h.le.im p x (N.im p x a));exact t.keep (M.obj.trans t.obj.symm) fun y l f q=>t.off y l f q
 refine⟨v,T,c,j,rfl,⟨Q,aO.le_refl j,fun r s=>absurd (r.symm.trans s) aJ,fun _ _ _=>rfl,aR _,fun r s=>h.kR r s,h.size,h.same,fun a f=>⟨f,u a⟩,fun p x e=>.inl e⟩,aS.uB (b:=k.next) (fun l e=>by rw[(h.rel.top (aR _)).1]at e;cases e) (O k.next) S,I,rfl⟩
end
end Go.aE
namespace Go.Proofs.YtddhncjmaahodaaGreatDoor
open Go.aE Go.aV
theorem CP(l:List Nat):∃a,W.trim l++a=l:=by
 rw[CQ l];exact⟨l.drop (W.trim l).length,oC _ _⟩
theorem aqd(n s:Nat)(I:s≤63)(F:n≠0)(ln:(ax n).length<100000)(N:Nat):dN 363 [bz (ax n),az (s:Int)] (ag.zero N) fun v e=>∃B c,v=.slice N 0 (ax (n/2^s)).length c∧N<e.next∧e.get N=.cells (aT (ax (n/2^s)++B)) 0:=by
 refine bg Ji ?_;have p:=fV n;have L:=fT n;have a7:¬(64:Int)=0:=aj;have a2:kq (s:Int) 64=0:=by
  show(((s/64:Nat)):Int)=0;omega
 have a3:lP (s:Int) 64=(s:Int):=by
  show(((s%64:Nat)):Int)=_;omega
 have w0:aG .u64 (0:Int)=0:=cj _ aj;have w1:aG .i64 (0:Int)=0:=aQ _ aj;have wl:aG .u64 (((ax n).length:Nat):Int)=(((ax n).length:Nat):Int):=cj _ aa;have P:=(iE n).2 F;clear F;have ht:((((ax n).length:Nat):Int)-0).toNat=(ax n).length:=aa;simp(disch:=omega)only[go_sem,xR,xU,G6,G5,G4,dt,iC,k_,a2,a3,w0,w1,wl,aQ,Int.sub_zero,bN,iH,nC];generalize ax n=x at p L P ln⊢
 obtain⟨y,j⟩:∃y,y=W.shr s x:=⟨_,rfl⟩;have ar:y.length=x.length:=by rw[j,W.rA]
 have a0:W.val y=n/2^s:=by rw[j,W.wO I,L]
 have aw:W.aM y:=by rw[j];exact W.uL I p
 have ap:∀i,i<x.length→y.getD i 0=x.getD i 0/2^s+(x.getD (i+1) 0%2^s)*2^(64-s):=fun i D=>by rw[j];exact W.wN D
 clear j;have G:dO s (gq .u64)=s:=kf (aa:s≤64);have Z:dO (64-s) (gq .u64)=64-s:=kf (aa:64-s≤64);have R:aG .u64 ((64:Int)-(s:Int))=((64-s:Nat):Int):=by rw[cj _ aa];omega
 refine bW (fun k a e=>∃i:Nat,k=x.length-i∧i≤x.length∧rd 0 a=bz x∧rd 5 a=ai 0∧rd 6 a=az (s:Int)∧rd 7 a=.slice N 0 x.length (.known x.length)∧rd 26 a=ai (x.length:Int)∧rd 27 a=ai (i:Int)∧
  d_ ((ag.zero N).push (.cells (aT (br x.length 0)) 0)) e N (aT (y.take i++br (x.length-i) 0))) x.length ⟨0,rfl,ck _,?_,?_,?_,?_,?_,?_,d_.refl ?_⟩ ?_
 iterate 5 simp only[go_sem]
 ·simp only[go_sem];rfl
 ·simp only[go_sem];rfl
 rintro k a e ⟨i,rfl,D,l,m,o,g,f,t,b⟩;unfold G2;by_cases X:i<x.length
 ·have O:=p.getD i;have bc:=p.getD (i+1);obtain⟨r,hr⟩:∃r,x.length-i=r+1:=⟨x.length-i-1,aa⟩;rw[hr,oA (n:=r)]at b;have d:(y.take i).length=i:=gK aa;have a9:i<(aT (y.take i++0::br r 0)).length:=by rw[eD,bt,d];simp
  have h:=b.at;have J:=fun v=>kW (es:=br r 0) (e:=0) (v:=v) d
  have w:=b.set (aT (y.take i++(x.getD i 0/2^s)::br r 0));have q:=ap i X;have C:=Iv (s:=s) aa O;have U:((i:Int)+1).toNat=i+1:=aa;by_cases a8:i+1<x.length
  ·have A:=acr (e:=x.getD (i+1) 0) (s:=s) aa;have z:=JN (x:=x.getD (i+1) 0) (s:=64-s) aa C;have Y:=Dr (x:=x.getD (i+1) 0) (s:=64-s) aa C;rw[A,←q]at z Y;have ac:((x.getD (i+1) 0:Nat):Int)*((2^(64-s):Nat):Int)=((x.getD (i+1) 0*2^(64-s):Nat):Int):=by rw[e7]
   have M:aG .u64 ((x.getD (i+1) 0*2^(64-s):Nat):Int)=(((x.getD (i+1) 0%2^s)*2^(64-s):Nat):Int):=by
    rw[gE,←A,Int.natCast_emod];rfl
   have E:(x.getD (i+1) 0%2^s)*2^(64-s)<18446744073709551616:=by rw[←A];exact eK _ aj
   have S:x.getD i 0/2^s<18446744073709551616:=eH (g7 _ _) O;have a':i<(aT (y.take i++(x.getD i 0/2^s)::br r 0)).length:=by rw[eD,bt,d];simp
   have ba:i<(y.take i++(x.getD i 0/2^s)::br r 0).length:=by rw[bt,d];simp
   have T:=oT (es:=br r 0) (e:=x.getD i 0/2^s) d;have al:=kW (es:=br r 0) (e:=x.getD i 0/2^s) (v:=y.getD i 0) d;generalize(x.getD (i+1) 0%2^s)*2^(64-s)=u at z M E
   have H:=wz ⟨S,E⟩;rw[z]at H;simp(disch:=omega)only[go_sem,tI,xT,xS,l,m,o,g,f,t,dt,gw,cR,bN,U,dB,aQ,Int.add_zero,G,Z,R,ac,M,lI,h,T,H,gk,jI,J,al];refine⟨r,aa,i+1,aa,aa,?_,?_,?_,?_,?_,?_,?_⟩
   iterate 5 simp only[go_sem,l,m,o,g,f]
   ·simp only[go_sem];rfl
   ·have Q:=w.set (aT (y.take i++y.getD i 0::br r 0));rw[(aa:x.length-(i+1)=r),uQ aa,eG];exact Q
  ·have am:x.getD (i+1) 0=0:=by rw[c_,m9 aa];rfl
   rw[am,Nat.zero_mod,jE,cO]at q;rw[←q]at w;simp(disch:=omega)only[go_sem,tI,xT,xS,l,m,o,g,f,t,dt,df,gw,cR,bN,dB,aQ,Int.add_zero,G,lI,h,gk,jI,J,←q];refine⟨r,aa,i+1,aa,aa,?_,?_,?_,?_,?_,?_,?_⟩
   iterate 5 simp only[go_sem,l,m,o,g,f]
   ·simp only[go_sem];rfl
   ·rw[(aa:x.length-(i+1)=r),uQ aa,eG];exact w
 ·have V:i=x.length:=aa;simp(disch:=omega)only[go_sem,tI,G3,g,f,t,df];rw[V,lV,oB,fA,cq aa]at b;have h:=b.at;have ab:=b.next
  rw[←ar];refine(are y [] N y.length aa aa _ (by rw[fA];exact h)).mono ?_;rintro _ _ ⟨rfl,rfl⟩;simp only[go_sem];have K:=CP y;rw[kX aw,a0]at K⊢;obtain⟨B,ae⟩:=K;refine⟨B,_,rfl,?_,?_⟩
  ·rw[ab];exact lU N
  ·rw[h,←ae]
theorem agE(m n:Nat)(w:n≠0)(Q:2≤(ax n).length)(Z:¬m<n)(bv:m%n≠0)(lm:(ax m).length<100000)(ln:(ax n).length<100000)(N:Nat):dN 310 [bz (ax m),bz (ax n)] (ag.zero N) fun v K=>∃q b i c,v=.aK [q,.slice b 0 (ax (m%n)).length c]∧N≤b∧b<K.next∧K.get b=.cells (aT (ax (m%n)++i)) 0:=by
 refine bg Jh ?_;have h1:(ax n).length≠1:=aa;have bd:=(iE n).2 w;simp(disch:=omega)only[go_sem,Ay,AF];refine use (tJ m n aa aa) ?_;have cp:¬eX (m:Int) (n:Int)<0:=by
  rcases Nat.lt_or_eq_of_le (ja Z)with h|h
  ·rw[mJ aa];decide
  ·rw[A9 aa];decide
 have F:(ax n).length≤(ax m).length:=kN (ja Z);obtain⟨J,k⟩:∃t,t=(ax n).getD ((ax n).length-1) 0:=⟨_,rfl⟩;have ae:=CN n w;have H:=(fV n).getD ((ax n).length-1);rw[←k]at ae H;obtain⟨g,U,C⟩:=yo (y:=J) ae H;have ab:=ym J H;obtain⟨s,hs⟩:∃s,s=64-eB J:=⟨_,rfl⟩;rw[←hs]at g U C ab;clear hs;have u:0<2^s:=e8 aj;have D:=B1 w g (by rw[←k];exact C);have E:=yy w g (by rw[←k];exact U) (by rw[←k];exact C);have bb:aG .u64 ((s:Nat):Int)=(s:Int):=cj _ aa;have al:aG .i64 (((ax n).length:Int)-1)=((ax n).length:Int)-1:=aQ _ aa;have ad:(((ax n).length:Int)-1).toNat=(ax n).length-1:=aa;obtain⟨e,p⟩:∃l,l=(ax m).length:=⟨_,rfl⟩;obtain⟨l,P⟩:∃l,l=(ax n).length:=⟨_,rfl⟩;rw[←p]at F lm;rw[←P]at bd ln h1 Q F k D E al ad;have R:(ax (m*2^s)).length≤e+1:=by
  refine tR ?_;have a:=mN m;rw[←p]at a;have b:2^s≤18446744073709551616:=by rw[q_ (s:=s) aa];exact Nat.le_mul_of_pos_left _ (e8 aj)
  rw[c3];exact ei (ng a u) (fc _ b)
 simp(disch:=omega)only[go_sem,AE,AD,df,←P,al,gw,ad,dB,←k];refine use ab ?_;simp(disch:=omega)only[go_sem,AB,bb];refine use (wM n s g aa) ?_;have ca:aG .i64 ((e:Int)+1)=(e:Int)+1:=aQ _ aa;have b':((e:Int)+1).toNat=e+1:=aa;simp(disch:=omega)only[go_sem,AA,Az,←p,ca,iH,b',nC];refine use (wM m s g aa) ?_;simp(disch:=omega)only[go_sem];refine Bm (cs:=aT (br (e+1) 0)) (by simp only[go_sem]) R (by rw[eD];simp) ?_;obtain⟨f,o⟩:∃X,X=ax (m*2^s)++br (e+1-(ax (m*2^s)).length) 0:=⟨_,rfl⟩;have S:aT (ax (m*2^s))++(aT (br (e+1) 0)).drop (ax (m*2^s)).length=aT f:=by
  rw[o,w_];congr 1;rw[aT,←List.map_drop,List.drop_replicate];rfl
 have ch:W.aM f:=by rw[o];exact(fV _).app (sF _)
 have a8:f.length=e+1:=by rw[o];simp;omega
 have T:W.val f=m*2^s:=by rw[o,W.fl,rE,fT,fe,cO]
 rw[S];clear S o R;obtain⟨j,aw⟩:∃j,e+1-l=j:=⟨_,rfl⟩;have cb:aG .i64 ((e:Int)-(l:Int))=(j:Int)-1:=by rw[aQ _ aa];omega
 have cd:aG .i64 ((j:Int)-1+1)=(j:Int):=by rw[aQ _ aa];omega
 simp(disch:=omega)only[go_sem,AI,AH,←p,cb,cd,iH,nC,bN];have a6:W.val (f.drop j)<W.val (ax (n*2^s)):=by
  have y:=W.oh f j aa;rw[T]at y;have a:=mN m;rw[←p,(aa:e=j+(l-1)),fX]at a;have b:=ng a u;obtain⟨r,M,_⟩:=lM (n*2^s) (tf w aa);rw[D]at M;refine Kt b y ?_;rw[fT,M];have a3:2^s≤9223372036854775808:=cI (fN aj g) aj;have c2:=dz (18446744073709551616^(l-1)) (cI a3 E);rw[b3];exact cI c2 (qI _ _)
 refine Iu f (ax (n*2^s)) l e j ch (fV _) a8 D Q aw F aa E N (N+1) aa _ _ _ ?_ ?_ ?_ ?_ ?_ a6 ?_ ?_ ?_
 iterate 5 simp only[go_sem]
 ·simp only[go_sem];rw[au aa]
 ·simp only[go_sem]
 intro A L r am B hr co ci bs I G bc V bi;have h9:rd 9 A=az (s:Int):=(B 9 aj).trans (by simp only[go_sem]);have a1:rd 11 A=.slice N 0 (e+1) (.known (e+1)):=(B 11 aj).trans (by simp only[go_sem]);have a2:rd 12 A=.slice (N+1) 0 j (.known j):=(B 12 aj).trans (by simp only[go_sem]);rw[fu];rw[T,fT]at I;rw[fT]at G;have a7:0<n*2^s:=Nat.mul_pos aa u;have hq:W.val am=m/n:=by
  rw[←Nat.mul_div_mul_right m n u,←I,b3,Nat.mul_add_div a7,lT G,cO]
 have b1:W.val r=m%n*2^s:=by
  rw[←qJ,←I,b3,Nat.mul_add_mod,jr G]
 simp(disch:=omega)only[go_sem,AG,a2];refine iL (pz am aa) V ⟨0,_,_,dH.2 rfl⟩ (.cons (oS V (by rw[ag.a_,ay rfl]) bs) .nil) ?_;simp(disch:=omega)only[go_sem,a1];have Y:(L.set (N+1) .none).get N=.cells (aT (r++br j 0)) 0:=by rw[ag.a_,au aa];exact bc
 have be:(r++br j 0).length=e+1:=by simp;omega
 refine iL (pz (r++br j 0) aa) Y ⟨0,_,_,dH.2 rfl⟩ (.cons (oS Y (by rw[ag.a_,ay rfl]) be) .nil) ?_;have b2:W.trim (r++br j 0)=ax (m%n*2^s):=by
  rw[kX (co.app (sF _)),W.fl,rE,fe,cO,b1]
 rw[b2,kX ci,hq];have b0:(ax (m%n*2^s)).length<100000:=by
  have:=kN (m:=m%n*2^s) (n:=n*2^s) (dz _ (hD (eK _ aa)));omega
 have a5:m%n*2^s≠0:=tf bv aa;have bj:N≤L.next:=by rw[bi];simp only[go_sem];omega
 simp(disch:=omega)only[go_sem,h9];refine(Yl (R:=fun v b O=>∃i c,v=.slice b 0 (ax (m%n)).length c∧O=aT (ax (m%n)++i)) (dy.refl _) ((aqd (m%n*2^s) s g a5 b0 _).mono ?_)).mono ?_
 ·rintro _ H4 ⟨i,c,rfl,hb,z⟩;rw[td _ u]at z⊢;exact⟨_,_,_,.slice _ _ _,aR _,hb,z,fun x y=>by
   simp only[aT,nc]at y;obtain⟨d,_,rfl⟩:=y;exact⟨_,_,rfl⟩,i,c,rfl,rfl⟩
 rintro _ H4 ⟨b,O,⟨i,c,rfl,rfl⟩,a',ba,z⟩;simp(disch:=omega)only[go_sem];exact⟨_,b,i,c,rfl,cI bj a',ba,by rw[z,ay rfl]⟩
theorem agI(m n:Nat)(d:n≠0)(f:2≤(ax n).length)(i:¬m<n)(j:m%n≠0)(k:(ax m).length<80)(l:(ax n).length<80)(N:Nat):dN 250 [bz (ax m),bz (ax n)] (ag.zero N) fun v a=>∃q b e c,v=.aK [q,.slice b 0 (ax (m%n)).length c]∧N≤b∧b<a.next∧a.get b=.cells (aT (ax (m%n)++e)) 0:=by
 refine bg Jf ?_;simp(disch:=omega)only[go_sem,Ad,Af,Ae,dt];refine(agE m n d f i j aa aa N).mono ?_;rintro _ a ⟨q,b,e,c,rfl,g,d,h⟩;simp only[go_sem];exact⟨q,b,e,c,rfl,g,d,h⟩
def oV(l:List Nat)(n s:Nat):Nat:=l.getD (n-1) 0*2^s+l.getD (n-2) 0/2^(64-s)
theorem Z4{l:List Nat}{n s:Nat}(B:s≤63)(f:2≤n)(y:l.length≤n)(t:W.aM l):∃d,W.val l=18446744073709551616^(n-2)*2^(64-s)*oV l n s+d∧d<18446744073709551616^(n-2)*2^(64-s):=by
 have k:∃L:List Nat,L.length=n∧W.val L=W.val l∧W.aM L∧∀i,L.getD i 0=l.getD i 0:=by
  refine⟨l++br (n-l.length) 0,by simp;omega,by rw[W.fl,rE,fe,cO],t.app (sF _),fun i=>?_⟩;simp only[c_];rcases k4 i l.length with h|h
  ·rw[k3 h]
  ·rw[pI h,m9 h];rcases k4 (i-l.length) (n-l.length)with h1|h1
   ·rw[List.getElem?_replicate,ay h1];rfl
   ·rw[m9 (by simpa using h1)]
 obtain⟨L,x,o,u,c⟩:=k;have h:=W.uo (l:=L) (n:=n) f aa (fun p z=>by rw[c_,m9 aa];rfl);have A:W.val (L.take (n-2))<18446744073709551616^(n-2):=by
  have:=W.gC (u.take (n-2));rw[gK aa]at this;exact this
 rw[o,c,c]at h;unfold oV;generalize l.getD (n-1) 0=b at*
 generalize l.getD (n-2) 0=a at*
 generalize W.val (L.take (n-2))=r at*
 generalize(18446744073709551616:Nat)^(n-2)=P at*
 have e:=q_ (s:=s) aa;have hT:0<2^(64-s):=e8 aj;have g:=iN a (2^(64-s));have j:=eK a hT;generalize 2^(64-s)=T at*
 generalize a/T=q at*
 generalize a%T=m at*
 refine⟨P*m+r,?_,?_⟩
 ·rw[h,e,←g,cZ,bU,cZ];have v:b*(T*2^s)*P=P*T*(b*2^s):=by ac_rfl
  have w:T*q*P=P*T*q:=by ac_rfl
  rw[v,w,b3 m];omega
 ·have:=fc P (show m+1≤T from j);rw[bU,dQ]at this;omega
def jj(b c d e:Nat)(a:Bool):List V:=[az (b:Int),az (c:Int),az (d:Int),az (e:Int),.bool a]
def zl(A B:Nat)(v:V):Prop:=∃c d a b e,v=.agg (jj c d a b e)∧c<18446744073709551616∧d<18446744073709551616∧a<18446744073709551616∧b<18446744073709551616∧(a≠0→1≤b∧∃f g,rL A B c d a b e f g)
variable{a:Nat}{g:Nat}{z:Nat}{I:Nat}{m:Bool}
theorem BP{o k i l f s:Nat}(h:m8 a g z I o k i l f s m)(u:a<18446744073709551616):I<18446744073709551616∧i<18446744073709551616∧k<18446744073709551616:=by
 have n:=h.KM;have v:f≤a:=by
  have:=h.hF;have q:f≤l*f:=by rw[b3];exact qf n
  omega
 rcases h.ph with⟨j,b,c,d,e⟩|⟨j,b,c,p,w,x,r,t,_⟩
 ·omega
 ·have:p≤i*p:=by rw[b3];exact qf j
  omega
theorem aqg(i p:Nat)(S:i<18446744073709551616)(V:p≤i)(Q:1≤i)(F:Fr)(H:ag)(R:X→Fr→ag→Prop)(b:Nat)(L:rd 7 F=az (i:Int))(M:rd 8 F=az (p:Int))(N:rd 9 F=.ptr b 0)(J:rd 10 F=az 0)(K:rd 11 F=az 1)(T:H.get b=.cells (jj 0 1 0 0 false) 0)
 (U:∀g B l e d o c a f s n,m8 i p l e d o c a f s n→l<18446744073709551616→rd 9 g=.ptr b 0→rd 4 g=rd 4 F→d_ H B b (jj l e o c n)→R (.exit 1) g B):bT (.loop FY) R F H:=by
 refine bW (fun k m t=>∃(l e d o c a f:Nat) (n:Bool),m8 i p l e d o c a f k n∧l<18446744073709551616∧rd 4 m=rd 4 F∧rd 7 m=az (f:Int)∧rd 8 m=az (k:Int)∧rd 9 m=.ptr b 0∧rd 10 m=az (d:Int)∧rd 11 m=az (a:Int)∧d_ H t b (jj l e o c n)) p ⟨0,1,0,0,0,1,i,false,m8.start V Q,aj,rfl,L,M,N,J,K,d_.refl T⟩ ?_;rintro s m t ⟨l,e,d,o,c,a,f,n,j,ab,w,C,x,r,O,v,y⟩;unfold FY;have z:=y.at;have Y:=j.small;have ae:=j.KM;have a6:=j.KL;have a2:f≤i:=by
  have:=j.hF;have h2:f≤a*f:=by rw[b3];exact qf ae
  omega
 have a5:=j.sf;have D:∀g:Fr,rd 9 g=.ptr b 0→rd 4 g=rd 4 F→R (.exit 1) g t:=fun g h P=>U g t _ _ _ _ _ _ _ _ _ j ab h P y
 unfold jj at z;by_cases I:a≤s
 ·have a7:=Y.2 aa;have E:aG .u64 ((f:Int)-(s:Int))=((f-s:Nat):Int):=by rw[cj _ aa];omega
  have G:aG .u64 ((c:Int)+(a:Int))=((c+a:Nat):Int):=by rw[cj _ aa];omega
  by_cases c2:c+a≤f-s
  ·have u:=j.step I aa;have ad:=u.KL;have Z:=u.small.1;have a4:¬((s:Nat):Int)=0:=aa;have ac:=(BP j S).1;obtain⟨q,A⟩:∃q,q=f/s:=⟨_,rfl⟩;rw[←A]at u ad Z;have a3:q≤f:=by rw[A];exact g7 _ _
   have aw:aG .u64 ((q:Nat):Int)=(q:Int):=cj _ aa;have wr:aG .u64 ((f%s:Nat):Int)=((f%s:Nat):Int):=cj _ ⟨s7 _,by
    have:=Nat.mod_le f s;omega⟩
   have ap:aG .u64 ((q:Int)*(a:Int))=((q*a:Nat):Int):=by rw[←e7];exact cj _ aa
   have wa:aG .u64 ((c:Int)+((q*a:Nat):Int))=((c+q*a:Nat):Int):=by rw[cj _ aa];omega
   have ar:aG .u64 ((q:Int)*(d:Int))=((q*d:Nat):Int):=by rw[←e7];exact cj _ aa
   have am:aG .u64 ((e:Int)+((q*d:Nat):Int))=((e+q*d:Nat):Int):=by rw[cj _ aa];omega
   simp(disch:=omega)only[go_sem,R9,R8,R7,R2,R1,C,x,r,O,v,z,E,G,df,iC,k_,qp,wU,←A,aw,ap,wa,ar,am];have W:f%s<s:=eK _ aa;refine⟨f%s,W,e,d,e+q*d,c,a,c+q*a,s, !n,u,ac,?_,?_,?_,?_,?_,?_,?_⟩
   iterate 6 simp only[go_sem,w,r]
   ·exact((((y.set _).set _).set _).set _).set _
  ·simp(disch:=omega)only[go_sem,C,x,r,v,z,E,G,dt,df];refine D _ ?_ ?_
   iterate 2 simp only[go_sem,r,w]
 ·simp(disch:=omega)only[go_sem,x,v,dt];refine D _ ?_ ?_
  iterate 2 simp only[go_sem,r,w]
theorem abl{y:Nat}(i:g≤63)(d:a*2^g<18446744073709551616)(h:y<18446744073709551616):a*2^g|||y/2^(64-g)=a*2^g+y/2^(64-g)∧a*2^g+y/2^(64-g)<18446744073709551616:=by
 have c:=Iv (s:=64-g) (d:=y) aa h;rw[(aa:64-(64-g)=g)]at c;refine⟨?_,?_⟩
 ·rw[←Nat.shiftLeft_eq a g,←Nat.shiftLeft_add_eq_or_of_lt c]
 ·have b:=q_ (s:=g) aa;have e:a+1≤2^(64-g):=by
   rw[b]at d;exact rP d
  have f:=dz (2^g) e;rw[←b,cZ,fM]at f;omega
theorem ai5{B X c:Nat}(h:B≤a)(d:a=X*g+I)(f:I<X)(e:B=X*z+c):z≤g:=by
 refine ja fun b=>?_
 have:=fc X (show g+1≤z from b);rw[bU,dQ]at this;omega
variable{d:List Nat}
theorem ZR(h:d.length≤a):d.getD a 0=0:=by rw[c_,m9 h];rfl
theorem aqf(A B:Nat)(O:B≤A)(N:2≤(ax B).length)(la:(ax A).length<1000000)(H:ag):dN 249 [bz (ax A),bz (ax B)] H fun v L=>zl A B v∧L=H:=by
 refine o6 (.cons (dA _) (.cons (dA _) .nil)) (e6.mono (Q:=fun v _=>zl A B v) (fun v L h=>⟨v,.same v,?_,h⟩) ?_) H
 ·obtain⟨E,G,I,J,y,rfl,_⟩:=h;exact .agg (.cons (.int _ _) (.cons (.int _ _) (.cons (.int _ _) (.cons (.int _ _) (.cons (.bool _) .nil)))))
 have p:(ax B).length≤(ax A).length:=kN O;have M:A≠0:=fun e=>by
  rw[e,js]at p;simp only[lR]at p;omega
 have ap:=CN A M;have z:=fV A;have C:=fV B;have ca:=fT A;have cb:=fT B;have am:(ax B).length=(ax A).length→(ax B).getD ((ax A).length-1) 0≤(ax A).getD ((ax A).length-1) 0:=fun e=>by
  have a9:B≠0:=fun e=>by rw[e,js]at N;simp at N
  obtain⟨r,e1,e2⟩:=lM A M;obtain⟨r',f1,f2⟩:=lM B a9;rw[e]at f1 f2;generalize(ax A).getD ((ax A).length-1) 0=t at*
  generalize(ax B).getD ((ax A).length-1) 0=t' at*
  generalize(18446744073709551616:Nat)^((ax A).length-1)=P at*
  refine ja fun b0=>?_
  have:=dz P (show t+1≤t' from b0);rw[cZ,fM]at this;omega
 obtain⟨n,eP⟩:∃n,n=(ax A).length:=⟨_,rfl⟩;generalize ax A=a at*
 generalize ax B=b at*
 rw[←eP]at p ap am la;have Y:2≤n:=aa;have T:=z.getD (n-1);have U:=z.getD (n-2);have c1:=C.getD (n-1);have V:=C.getD (n-2);obtain⟨g,R,j⟩:=yo ap T;have W:=ym _ T;obtain⟨s,hs⟩:∃s,s=64-eB (a.getD (n-1) 0):=⟨_,rfl⟩;rw[←hs]at g R j W;clear hs;obtain⟨α,k,ar⟩:=Z4 (l:=a) (n:=n) (s:=s) g Y aa z;obtain⟨β,l,cf⟩:=Z4 (l:=b) (n:=n) (s:=s) g Y aa C;rw[ca]at k;rw[cb]at l;have bc:=ai5 O k ar l;obtain⟨ab,c⟩:=abl g j U;have a':1≤oV a n s:=cI (cI aj R) (qI _ _);have bb:a.getD (n-1) 0*2^s+a.getD (n-2) 0/2^(64-s)=oV a n s:=rfl;rw[bb]at ab c;have bi:aG .u64 ((s:Nat):Int)=(s:Int):=cj _ aa;have Z:dO s (gq .u64)=s:=kf (aa:s≤64);have q:dO (64-s) (gq .u64)=64-s:=kf (aa:64-s≤64);have m:aG .u64 ((64:Int)-(s:Int))=((64-s:Nat):Int):=by rw[cj _ aa];omega
 have i:aG .i64 ((n:Int)-1)=(n:Int)-1:=aQ _ aa;have u:aG .i64 ((n:Int)-2)=(n:Int)-2:=aQ _ aa;have w:((n:Int)-1).toNat=n-1:=aa;have x:((n:Int)-2).toNat=n-2:=aa;have b1:((a.getD (n-1) 0:Nat):Int)*((2^s:Nat):Int)=((a.getD (n-1) 0*2^s:Nat):Int):=by rw[e7]
 have cd:aG .u64 ((a.getD (n-1) 0*2^s:Nat):Int)=((a.getD (n-1) 0*2^s:Nat):Int):=cj _ aa;have bj:a.getD (n-2) 0/2^(64-s)<18446744073709551616:=eH (g7 _ _) U;have ac:=wz (x:=a.getD (n-1) 0*2^s) (y:=a.getD (n-2) 0/2^(64-s)) ⟨j,bj⟩;rw[ab]at ac;have D:∀F:Fr,rd 7 F=az (oV a n s:Nat)→rd 8 F=az (oV b n s:Nat)→rd 4 F=.ptr 5 0→∀H,H.next=6→H.get 5=.cells [az 0,az 0,az 0,az 0,aq] 0→bT FX (gl [gV.cell 4 true 5] fun v _=>zl A B v) F H:=by
  intro F f7 f8 f4 H X bs;simp(disch:=omega)only[go_sem,FX,Sc,Sb,Sa,X];refine aqg (oV a n s) (oV b n s) c bc a' _ _ _ 6 ?_ ?_ ?_ ?_ ?_ ?_ ?_
  iterate 5 simp only[go_sem,f7,f8]
  ·simp only[go_sem];rfl
  intro F' K E G u2 I J v2 f t y d b' dj g4 Q;have a7:rd 4 F'=.ptr 5 0:=g4.trans (by simp only[go_sem,f4]);have aw:K.get 6=.cells (jj E G I J y) 0:=Q.at;have ch:K.get 5=.cells [az 0,az 0,az 0,az 0,aq] 0:=by
   rw[Q.get,au aj];simp only[go_sem,X,bs]
  unfold jj at aw;rw[fu];simp(disch:=omega)only[go_sem,R_,dj,a7,aw,ch];exact⟨E,G,I,J,y,rfl,b',(BP d c).1,(BP d c).2.2,(BP d c).2.1,fun h0=>⟨(by rcases d.ph with h|h<;>omega),d.pair h0 k ar l cf⟩⟩
 refine bg alo ?_;simp(disch:=omega)only[go_sem,R0,R6,R5,←eP,i,gw,w,dB];refine use W ?_;simp(disch:=omega)only[go_sem,R4,R3,i,u,gw,w,x,dB,bi,Z,q,m,b1,cd,lI,ac];by_cases bv:b.length=n
 ·have S:b.getD (n-1) 0*2^s<18446744073709551616:=eH (dz _ (am bv)) j;obtain⟨ae,c0⟩:=abl g S V;have ba:b.getD (n-1) 0*2^s+b.getD (n-2) 0/2^(64-s)=oV b n s:=rfl;rw[ba]at ae;have b2:((b.getD (n-1) 0:Nat):Int)*((2^s:Nat):Int)=((b.getD (n-1) 0*2^s:Nat):Int):=by rw[e7]
  have ce:aG .u64 ((b.getD (n-1) 0*2^s:Nat):Int)=((b.getD (n-1) 0*2^s:Nat):Int):=cj _ aa;have bo:b.getD (n-2) 0/2^(64-s)<18446744073709551616:=eH (g7 _ _) V;have ad:=wz (x:=b.getD (n-1) 0*2^s) (y:=b.getD (n-2) 0/2^(64-s)) ⟨S,bo⟩;rw[ae]at ad;simp(disch:=omega)only[go_sem,Ac,dt,i,u,gw,w,x,dB,Z,q,m,b2,ce,lI,ad];refine D _ ?_ ?_ ?_ _ ?_ ?_
  iterate 5 simp only[go_sem]
 ·have bd:b.getD (n-1) 0=0:=ZR aa;have o:oV b n s=b.getD (n-2) 0/2^(64-s):=by unfold oV;rw[bd,jE,fB]
  by_cases c2:b.length=n-1
  ·simp(disch:=omega)only[go_sem,Ac,dt,df,i,u,gw,x,dB,q,m,lI];refine D _ ?_ ?_ ?_ _ ?_ ?_
   iterate 5 simp only[go_sem,o]
  ·have be:b.getD (n-2) 0=0:=ZR aa;rw[be,Nat.zero_div]at o;simp(disch:=omega)only[go_sem,Ac,df,i];refine D _ ?_ ?_ ?_ _ ?_ ?_
   ·simp only[go_sem]
   ·simp only[go_sem,o];rfl
   iterate 3 simp only[go_sem]
theorem anB(x y c:Nat)(b:x<18446744073709551616)(d:y<18446744073709551616)(h:c<18446744073709551616):bA 311 [az (x:Int),az (y:Int),az (c:Int)] (.aK [az (((x*y+c)%18446744073709551616:Nat):Int),az (((x*y+c)/18446744073709551616:Nat):Int)]):=by
 refine cT (.cons (.int _ _) (.cons (.int _ _) (.cons (.int _ _) .nil))) (.aK (.cons (.int _ _) (.cons (.int _ _) .nil))) (bg alM ?_);have i:=wv b d;have f:=BW x y b d;generalize x*y=p at*
 have a:=tn (a:=p%18446744073709551616) (b:=c) (c:=0) aa;rw[cO,jn]at a;have e:(p%18446744073709551616+c)%18446744073709551616=(p+c)%18446744073709551616:=aa;rw[e]at a;have g:aG .u64 (((p/18446744073709551616:Nat):Int)+(((p%18446744073709551616+c)/18446744073709551616:Nat):Int))=(((p+c)/18446744073709551616:Nat):Int):=by rw[cj _ aa];omega
 simp(disch:=omega)only[go_sem,Ug,Uj];refine use f ?_;simp(disch:=omega)only[go_sem,Ui,Uh,a,g]
theorem BV{P X b x:Nat}(h:a+P*g=X*z)(c:I+18446744073709551616*b=x*z+g):a+P*I+P*18446744073709551616*b=(X+P*x)*z:=by
 have e:=congrArg (P* ·) c;simp only[bU,←cg]at e;rw[cZ];omega
variable{c:ag}{b:List V}
theorem dh.other{d:List V}(h:dh c a g b)(l:a≠z)(m:a≠I)(n:g≠z)(o:g≠I):dh (ag.wr c z I d) a g b:=by
 have i:∀y,y≠z→y≠I→(ag.wr c z I d).get y=c.get y:=fun y j k=>by
  unfold ag.wr;rw[ag.a_,au (fun e=>k e.symm),ag.a_,au (fun e=>j e.symm)]
 obtain⟨f,p,q⟩:=h.b5;exact⟨by rw[i _ l m];exact h.row,⟨f,by rw[i _ n o];exact p,q⟩,h.ne⟩
theorem dh.written(h:dh c a g b)(d:List V):dh (ag.wr c a g d) a g d:=((k6.refl h).wr d).lC
theorem vY(d:z≠a)(f:z≠g):(ag.wr c a g b).get z=c.get z:=by
 unfold ag.wr;rw[ag.a_,au (fun e=>f e.symm),ag.a_,au (fun e=>d e.symm)]
structure zh (b g b' g' n:Nat):Prop where
 h1:b≠b'
 h2:b≠g'
 h3:g≠b'
 h4:g≠g'
 lb:b<n
 lC:g<n
 lb':b'<n
 wh:g'<n
structure s5 (K7 K9:List Nat) (i bL u1 v0 v1:Nat) (iJ:Bool) (ad bd:List Nat) (Ye Yf Yg Yh DH ln:Nat):Prop where
 la:ad.length=i
 lb:bd.length=i
 JF:W.aM ad
 sE:W.aM bd
 hP:Ye<18446744073709551616
 hQ:Yf<18446744073709551616
 hR:Yg<18446744073709551616
 hT:Yh<18446744073709551616
 Z0:DH≤1
 Z5:ln≤1
 eq:∃C_ Dc Dd De,C_+18446744073709551616^i*Ye=W.val (K7.take i)*bL∧Dc+18446744073709551616^i*Yf=W.val (K9.take i)*v0∧Dd+18446744073709551616^i*Yg=W.val (K9.take i)*v1∧De+18446744073709551616^i*Yh=W.val (K7.take i)*u1∧
  (iJ=false→Dc+18446744073709551616^i*DH=W.val ad+C_∧De+18446744073709551616^i*ln=W.val bd+Dd)∧(iJ=true→C_+18446744073709551616^i*DH=W.val ad+Dc∧Dd+18446744073709551616^i*ln=W.val bd+De)
theorem sub_eq{P c b d x y:Nat}(f:g+P*I=x)(i:z+P*c=y)(j:y=x+a)(k:z+P*b=d+g)(l:a<P)(m:d<P):d=a:=by
 have e:a+P*(I+b)=d+P*c:=by rw[bU];omega
 rcases Nat.lt_trichotomy (I+b) c with h|h|h
 ·have:=fc P (show I+b+1≤c from h);rw[bU,dQ]at this;omega
 ·rw[h]at e;omega
 ·have:=fc P (show c+1≤I+b from h);rw[bU,dQ]at this;omega
theorem s5.done{t:List Nat}{e:Nat}{u v:List Nat}{x y C D w K A B b f:Nat}(h:s5 d t a g z I e m u v x y C D w K)(G:W.val (d.take a)=A)(H:W.val (t.take a)=B)(P:A<18446744073709551616^a)(c:rL A B g z I e m b f)(J:1≤e):W.val u=b∧W.val v=f:=by
 obtain⟨L,M,N,O,i,j,k,l,E,F⟩:=h.eq;have Q:b≤A:=by
  have:=c.ba;have S:b≤e*b:=by rw[b3];exact qf J
  omega
 have R:f≤b:=c.le;have r:=W.gC h.JF;have s:=W.gC h.sE;rw[h.la]at r;rw[h.lb]at s;rw[G]at i l;rw[H]at j k;cases m with
 |false=>
  obtain⟨n,o⟩:=c.ev rfl;obtain⟨p,q⟩:=E rfl;refine⟨sub_eq i j ?_ p aa r,sub_eq k l ?_ q aa s⟩
  ·rw[b3 B,b3 A];exact n
  ·rw[b3 B,b3 A];exact o
 |true=>
  obtain⟨n,o⟩:=c.JG rfl;obtain⟨p,q⟩:=F rfl;refine⟨sub_eq j i ?_ p aa r,sub_eq l k ?_ q aa s⟩
  ·rw[b3 B,b3 A];exact n
  ·rw[b3 B,b3 A];exact o
theorem s5.step{e:List Nat}{A:Nat}{f i:List Nat}{B C D E l w x y p q r t n s u v j k b c:Nat}(h:s5 d e a g z I A m f i B C D E l w)(J:a<d.length)(K:a<e.length)(L:d.getD a 0=x)(M:e.getD a 0=y)
 (am:p+18446744073709551616*n=x*g+B) (eQ:q+18446744073709551616*s=y*I+C) (ar:r+18446744073709551616*u=y*A+D) (aw:t+18446744073709551616*v=x*z+E) (U:n<18446744073709551616) (V:s<18446744073709551616) (X:u<18446744073709551616) (Y:v<18446744073709551616) (Z:j≤1) (ab:k≤1) (k1:b<18446744073709551616) (k2:c<18446744073709551616)
 (H:m=false→q+18446744073709551616*j=b+p+l∧t+18446744073709551616*k=c+r+w) (N:m=true→p+18446744073709551616*j=b+q+l∧r+18446744073709551616*k=c+t+w):
 s5 d e (a+1) g z I A m (f++[b]) (i++[c]) n s u v j k:=by
 obtain⟨Q,R,S,T,e1,e2,ae,al,F,G⟩:=h.eq;have O:W.val (f++[b])=W.val f+18446744073709551616^a*b:=by rw[W.fl,h.la];simp[W.val]
 have P:W.val (i++[c])=W.val i+18446744073709551616^a*c:=by rw[W.fl,h.lb];simp[W.val]
 refine⟨by simp[h.la],by simp[h.lb],h.JF.app (.mk k1 W.aM.nil),h.sE.app (.mk k2 W.aM.nil),U,V,X,Y,Z,ab,Q+18446744073709551616^a*p,R+18446744073709551616^a*q,S+18446744073709551616^a*r,T+18446744073709551616^a*t,?_,?_,?_,?_,fun o=>?_,fun o=>?_⟩
 ·rw[jX J,L,c3];exact BV e1 am
 ·rw[jX K,M,c3];exact BV e2 eQ
 ·rw[jX K,M,c3];exact BV ae ar
 ·rw[jX J,L,c3];exact BV al aw
 ·rw[O,P,c3];exact⟨vp (F o).1 (H o).1,vp (F o).2 (H o).2⟩
 ·rw[O,P,c3];exact⟨vp (G o).1 (N o).1,vp (G o).2 (N o).2⟩
theorem CI(e:a<18446744073709551616)(f:g<18446744073709551616)(c:z≤1):∃d b,d<18446744073709551616∧b≤1∧a+18446744073709551616*b=d+g+z∧sS [az (a:Int),az (g:Int),az (z:Int)]=some (.val (.aK [az ((d:Nat):Int),az ((b:Nat):Int)])):=
 ⟨_,_,eK _ aj,by split<;>omega,sub_one e f c,CJ c⟩
theorem yq(x y c:Nat)(a:x<18446744073709551616)(b:y<18446744073709551616)(e:c<18446744073709551616):∃d z,d<18446744073709551616∧z<18446744073709551616∧d+18446744073709551616*z=x*y+c∧bA 311 [az (x:Int),az (y:Int),az (c:Int)] (.aK [az ((d:Nat):Int),az ((z:Nat):Int)]):=by
 have f:=wv a b;exact⟨_,_,eK _ aj,aa,aa,anB x y c a b e⟩
theorem aed(b e:List Nat)(n G I J K:Nat)(N:Bool)(eQ:W.aM b)(e0:W.aM e)(fp:n≤b.length)(fr:n≤e.length)(hn:n<1000000)(l0:G<18446744073709551616)(l1:I<18446744073709551616)(et:J<18446744073709551616)(m1:K<18446744073709551616)(a o j u O:Nat)(F:Fr)(H:ag)(R:X→Fr→ag→Prop)(d8:dh H a o (aT b))(d9:dh H j u (aT e))(f:zh a o j u O)(hs:H.get O=.cells (jj G I J K N) 0)
 (e1:rd 1 F=.slice a 0 n (.grown 1)) (e2:rd 2 F=.slice j 0 n (.grown 1)) (dE:rd 3 F=.ptr O 0) (dT:rd 6 F=az 0) (d0:rd 7 F=az 0) (d2:rd 8 F=az 0) (d3:rd 9 F=az 0) (dp:rd 10 F=az 0) (dq:rd 11 F=az 0) (ds:rd 19 F=.slice a 0 n (.grown 1)) (dv:rd 20 F=ai (n:Int)) (dC:rd 21 F=ai 0)
 (d':∀F' P c l A B C D L M,s5 b e n G I J K N c l A B C D L M→dh P a o (aT (c++b.drop n))→dh P j u (aT (l++e.drop n))→P.next=H.next→(∀y,y≠a→y≠o→y≠j→y≠u→P.get y=H.get y)→R (.exit 0) F' P):bT (.loop F1) R F H:=by
 refine bW (fun k m g=>∃(i:Nat) (c l:List Nat) (A B C D L M:Nat),k=n-i∧i≤n∧rd 1 m=.slice a 0 n (.grown 1)∧rd 2 m=.slice j 0 n (.grown 1)∧rd 3 m=.ptr O 0∧rd 6 m=az (A:Int)∧rd 7 m=az (B:Int)∧rd 8 m=az (C:Int)∧rd 9 m=az (D:Int)∧rd 10 m=az (L:Int)∧rd 11 m=az (M:Int)∧rd 19 m=.slice a 0 n (.grown 1)∧rd 20 m=ai (n:Int)∧rd 21 m=ai (i:Int)∧
  s5 b e i G I J K N c l A B C D L M∧dh g a o (aT (c++b.drop i))∧dh g j u (aT (l++e.drop i))∧g.get O=.cells (jj G I J K N) 0∧g.next=H.next∧∀y,y≠a→y≠o→y≠j→y≠u→g.get y=H.get y) n
  ⟨0,[],[],0,0,0,0,0,0,rfl,ck _,e1,e2,dE,dT,d0,d2,d3,dp,dq,ds,dv,dC,⟨rfl,rfl,W.aM.nil,W.aM.nil,aj,aj,aj,aj,aj,aj,0,0,0,0,by simp[W.val],by simp[W.val],by simp[W.val],by simp[W.val],fun _=>by simp[W.val],fun _=>by simp[W.val]⟩,d8,d9,hs,rfl,fun _ _ _ _ _=>rfl⟩ ?_
 rintro k m g ⟨i,c,l,A,B,C,D,L,M,rfl,hi,f1,Q,w,f6,f7,f8,f9,bv,b0,aw,ad,ae,s,S,T,z,a1,a0⟩;unfold F1;by_cases fi:i<n
 ·have b':=s.la;have ca:=s.lb;have b1:=pZ (l:=b) (i:=i) aa;have b2:=pZ (l:=e) (i:=i) aa;have hx:=eQ.getD i;have hy:=e0.getD i;obtain⟨x,ex⟩:∃x,b.getD i 0=x:=⟨_,rfl⟩;obtain⟨y,ar⟩:∃x,e.getD i 0=x:=⟨_,rfl⟩;rw[ex]at b1 hx;rw[ar]at b2 hy;rw[b1]at S;rw[b2]at T;have ea:=oT (es:=b.drop (i+1)) (e:=x) b';have eb:=oT (es:=e.drop (i+1)) (e:=y) ca;have cb:i<(c++x::b.drop (i+1)).length:=by simp;omega
  have cd:i<(l++y::e.drop (i+1)).length:=by simp;omega
  have eh:hH false 1 [.ptr a i] g=some (az (x:Int)):=by rw[q5 S,dB cb,ea]
  have el:hH false 1 [.ptr j i] g=some (az (y:Int)):=by rw[q5 T,dB cd,eb]
  have ce:∀d:Nat,qm 1 [.ptr a i,az (d:Int)] g=some (V.undef,ag.wr g a o (aT (c++d::b.drop (i+1)))):=fun d=>by
   rw[wT S (by rw[eD];exact cb),jI,kW b']
  have cf:∀d v:Nat,qm 1 [.ptr j i,az (v:Int)] (ag.wr g a o (aT (c++d::b.drop (i+1))))=some (V.undef,ag.wr (ag.wr g a o (aT (c++d::b.drop (i+1)))) j u (aT (l++v::e.drop (i+1)))):=fun d v=>by
   rw[wT (T.other f.h1.symm f.h3.symm f.h2.symm f.h4.symm) (by rw[eD];exact cd),jI,kW ca]
  have next:∀d v:Nat,dh (ag.wr (ag.wr g a o (aT (c++d::b.drop (i+1)))) j u (aT (l++v::e.drop (i+1)))) a o (aT (c++[d]++b.drop (i+1)))∧dh (ag.wr (ag.wr g a o (aT (c++d::b.drop (i+1)))) j u (aT (l++v::e.drop (i+1)))) j u (aT (l++[v]++e.drop (i+1)))∧
   (ag.wr (ag.wr g a o (aT (c++d::b.drop (i+1)))) j u (aT (l++v::e.drop (i+1)))).get O=.cells (jj G I J K N) 0:=fun d v=>by
   have k1:=f.lb;have k2:=f.lC;have cu:=f.lb';have ap:=f.wh;refine⟨?_,?_,?_⟩
   ·rw[eG];exact(S.written _).other f.h1 f.h2 f.h3 f.h4
   ·rw[eG];exact(T.other f.h1.symm f.h3.symm f.h2.symm f.h4.symm).written _
   ·rw[vY aa aa,vY aa aa];exact z
  obtain⟨p,bi,p1,p2,p3,e'⟩:=yq x G A hx l0 s.hP;obtain⟨q,bj,q1,cs,c0,fa⟩:=yq y J B hy et s.hQ;obtain⟨r,bo,r1,r2,c',fb⟩:=yq y K C hy m1 s.hR;obtain⟨t,bs,t1,t2,t3,t4⟩:=yq x I D hx l1 s.hT;unfold jj at z;simp(disch:=omega)only[go_sem,F0,Se,Q,w,f6,aw,ad,ae,dt,cR,bN,eh,el,z];refine use e' ?_;simp(disch:=omega)only[go_sem,w,f7,z];refine use fa ?_;simp(disch:=omega)only[go_sem,w,f8,z];refine use fb ?_;simp(disch:=omega)only[go_sem,w,f9,z];refine use t4 ?_;cases N with
  |false=>
   obtain⟨d1,bd,k1,k2,cu,ap⟩:=CI q1 p1 s.Z0;obtain⟨E,be,j1,j2,a9,a'⟩:=CI t1 r1 s.Z5;have a4:=s.step aa aa ex ar p3 c0 c' t3 p2 cs r2 t2 k2 j2 k1 j1 (fun _=>⟨cu,a9⟩) (fun h=>by cases h);obtain⟨n1,n2,bc⟩:=next d1 E
   have a2:=ce d1;have a3:=cf d1 E;simp(disch:=omega)only[go_sem,FZ,f1,Q,w,bv,b0,ae,z,ap,a',cR,bN,a2,a3,aQ];refine⟨n-(i+1),aa,i+1,c++[d1],l++[E],bi,bj,bo,bs,bd,be,rfl,aa,?_,?_,?_,?_,?_,?_,?_,?_,?_,?_,?_,?_,a4,n1,n2,bc,a1,fun y U Y Z ab=>(vY Z ab).trans ((vY U Y).trans (a0 y U Y Z ab))⟩
   iterate 11 simp only[go_sem,f1,Q,w,aw,ad]
   ·simp only[go_sem];rfl
  |true=>
   obtain⟨d1,bd,k1,k2,cu,ap⟩:=CI p1 q1 s.Z0;obtain⟨E,be,j1,j2,a9,a'⟩:=CI r1 t1 s.Z5;have a4:=s.step aa aa ex ar p3 c0 c' t3 p2 cs r2 t2 k2 j2 k1 j1 (fun h=>by cases h) (fun _=>⟨cu,a9⟩);obtain⟨n1,n2,bc⟩:=next d1 E
   have a2:=ce d1;have a3:=cf d1 E;simp(disch:=omega)only[go_sem,FZ,f1,Q,w,bv,b0,ae,z,ap,a',cR,bN,a2,a3,aQ];refine⟨n-(i+1),aa,i+1,c++[d1],l++[E],bi,bj,bo,bs,bd,be,rfl,aa,?_,?_,?_,?_,?_,?_,?_,?_,?_,?_,?_,?_,a4,n1,n2,bc,a1,fun y U Y Z ab=>(vY Z ab).trans ((vY U Y).trans (a0 y U Y Z ab))⟩
   iterate 11 simp only[go_sem,f1,Q,w,aw,ad]
   ·simp only[go_sem];rfl
 ·have ed:i=n:=aa;subst ed;simp(disch:=omega)only[go_sem,F0,ad,ae,df];exact d' _ _ c l A B C D L M s S T a1 a0
theorem aec(c d:List Nat)(n l m o a:Nat)(t:Bool)(A B x z:Nat)(G:W.aM c)(ar:W.aM d)(D:n≤c.length)(X:n≤d.length)(U:n<1000000)(C:W.val (c.take n)=A)(P:W.val (d.take n)=B)(Q:rL A B l m o a t x z)(Z:1≤a)(l0:l<18446744073709551616)(l1:m<18446744073709551616)(am:o<18446744073709551616)(m1:a<18446744073709551616)(i p j q:Nat)(H:ag)(R:dh H i p (aT c))(S:dh H j q (aT d))(s:zh i p j q H.next):
 dN 251 [.agg (jj l m o a t),.slice i 0 n (.grown 1),.slice j 0 n (.grown 1)] H fun _ u=>∃e k,e.length=n∧k.length=n∧W.aM e∧W.aM k∧W.val e=x∧W.val k=z∧dh u i p (aT (e++c.drop n))∧dh u j q (aT (k++d.drop n))∧H.next≤u.next∧∀y,y<H.next→y≠i→y≠p→y≠j→y≠q→u.get y=H.get y:=by
 have O:A<18446744073709551616^n:=by
  have:=W.gC (G.take n);rw[gK D,C]at this;exact this
 refine bg alp ?_;simp(disch:=omega)only[go_sem,Sd,Si,Sh,Sg,Sf];have k1:=s.lb;have k2:=s.lC;have cu:=s.lb';have ad:=s.wh;have w:∀ {y:Nat},y<H.next→(H.push (.cells (jj l m o a t) 0)).get y=H.get y:=fun{y} E=>by
  simp(disch:=omega)only[go_sem,au]
 have F:∀ {b g:Nat}{v:List V},dh H b g v→b<H.next→g<H.next→dh (H.push (.cells (jj l m o a t) 0)) b g v:=fun{b g v} h M N=>by
  obtain⟨f,I,J⟩:=h.b5;exact⟨by rw[w M];exact h.row,⟨f,by rw[w N];exact I,J⟩,h.ne⟩
 refine aed c d n l m o a t G ar D X U l0 l1 am m1 i p j q H.next _ _ _ (F R k1 k2) (F S cu ad) s ?_ ?_ ?_ ?_ ?_ ?_ ?_ ?_ ?_ ?_ ?_ ?_ ?_ ?_
 iterate 13 simp only[go_sem]
 intro F' H' e k a8 a9 a' ba a7 ln r K L Y T;obtain⟨r1,r2⟩:=r.done C P O Q Z;simp only[go_sem];exact⟨e,k,r.la,r.lb,r.JF,r.sE,r1,r2,K,L,by rw[Y];exact Nat.le_succ _,fun y E w1 w2 w3 a4=>(T y w1 w2 w3 a4).trans (w E)⟩
variable{J:ag}
theorem dh.keep(h:dh c a g b)(d:J.get a=c.get a)(e:J.get g=c.get g):dh J a g b:=by
 obtain⟨f,i,j⟩:=h.b5;exact⟨d.trans h.row,⟨f,e.trans i,j⟩,h.ne⟩
variable{o:Fr}{j:Option Nat}{f:Fr→ag→Prop}
theorem Y4{l:List Nat}(h:dh c a g (aT d))(q:d.take z=l)(B:l.length=z)(J:z<1000000)(t:a<c.next)(v:g<c.next)(x:Nat)
 (w:∀b,dh b (c.next+1) g (aT (l++[x]))→(∀y,y<c.next→y≠g→b.get y=c.get y)→b.next=c.next+2→f (put o j (.slice (c.next+1) 0 (z+1) (.grown 1))) b):
 gT j f o (ga 1 8 [.slice a 0 z (.grown 1),.slice c.next 0 1 (.known 1)] (c.push (.cells [az (x:Int)] 0))):=by
 obtain⟨H1,i⟩:∃H1,H1=c.push (.cells [az (x:Int)] 0):=⟨_,rfl⟩;have n:∀y,y<c.next→H1.get y=c.get y:=fun y r=>by rw[i,ag.bE,au aa]
 have C:H1.get c.next=.cells [az (x:Int)] 0:=by rw[i,ag.bE,ay rfl]
 have k:dh H1 a g (aT d):=h.keep (n a t) (n g v);have p:H1.next=c.next+1:=by rw[i];rfl
 rw[←i];have A:H1.dw a 0 (z*1)=some (aT l):=by
  rw[dQ,k.dw (by
   have:=congrArg jD q;rw[ep,B]at this;omega),q]
 have u:ec H1 1 1 (.slice c.next 0 1 (.known 1))=some [az (x:Int)]:=by
  show H1.dw c.next 0 (1*1)=_
  rw[gj C,eY];rfl
 obtain⟨I,F,K⟩:=k.b5;have s:ga 1 8 [.slice a 0 z (.grown 1),.slice c.next 0 1 (.known 1)] H1=some (.slice H1.next 0 (z+1) (.grown 1),(H1.push (.cells (aT l++[az (x:Int)]) g)).set g (.b5 H1.next H1.next)):=by
  show av (some 1) (fun m=>av (ec H1 1 m (.slice c.next 0 1 (.known 1))) fun G=>kL 1 8 (.slice a 0 z (.grown 1)) m G H1)=_
  show av (ec H1 1 1 (.slice c.next 0 1 (.known 1))) _=_
  rw[u];show bq (ju (z+1) 8) (bq (and (bK 1 1) (de [V.int .u64 (x:Int)])) (av (H1.dw a 0 (z*1)) fun H=>qP H1 1 a (z+1) (ez H [V.int .u64 (x:Int)])))=_;rw[p0 ⟨aa,aa⟩,A];show qP H1 1 a (z+1) (ez (aT l) [V.int .u64 (x:Int)])=_;unfold qP;rw[k.row];show eg.casesOn (motive:=fun _=>Option (V×ag)) (H1.get g) _ _ _ _=_;rw[F];show bq (and (bK a a) (!(fy g))) _=_;rw[show bK a a=true from Nat.beq_refl a,su k.ne,iV];rfl
 rw[s];have D:aT l++[V.int .u64 (x:Int)]=aT (l++[x]):=by rw[w_];rfl
 rw[D,p];refine w _ ⟨?_,⟨c.next+1,?_,aR _⟩,h.ne⟩ (fun y r E=>?_) ?_
 ·rw[ag.a_,au aa,ag.bE,ay p]
 ·rw[ag.a_,ay rfl]
 ·rw[ag.a_,au (fun e=>E e.symm),ag.bE,au aa];exact n y r
 ·show H1.next+1=_
  rw[p]
theorem aiu(a n B e f:Nat)(M l:List Nat)(hn:l.length=n)(I:M.take n=l)(V:W.aM M)(K:M.length<1000000)(T:n≤a)(ab:a<1000000)(F:Fr)(H:ag)(R:X→Fr→ag→Prop)(C:rd 5 F=.slice B 0 a (.grown 1))(D:rd 6 F=.slice e 0 n (.grown 1))(E:dh H e f (aT M))(N:e<H.next)(Z:f<H.next)
 (L:∀p h i o,(∀t,t<10→t≠6→rd t p=rd t F)→rd 6 p=.slice i 0 a (.grown 1)→o.take a=l++br (a-n) 0→W.aM o→o.length<1000000→dh h i f (aT o)→(∀y,y<H.next→y≠f→h.get y=H.get y)→H.next≤h.next→i<h.next→(i=e∨H.next≤i)→R (.exit 2) p h):bT (.loop E7) R F H:=by
 refine bW (fun k q c=>∃(m b:Nat) (d:List Nat),k=a-m∧n≤m∧m≤a∧(∀t,t<10→t≠6→rd t q=rd t F)∧rd 6 q=.slice b 0 m (.grown 1)∧d.take m=l++br (m-n) 0∧W.aM d∧d.length<1000000∧dh c b f (aT d)∧(∀y,y<H.next→y≠f→c.get y=H.get y)∧H.next≤c.next∧b<c.next∧(b=e∨H.next≤b)) (a-n)
  ⟨n,e,M,rfl,aR _,T,fun _ _ _=>rfl,D,by rw[lV,oB,fA];exact I,V,K,E,fun _ _ _=>rfl,aR _,N,.inl rfl⟩ ?_
 rintro k q c ⟨m,b,d,rfl,am,ad,s,r,u,A,J,w,z,U,x,O⟩;have v:=(s 5 aj aj).trans C;unfold E7;by_cases ac:m<a
 ·simp(disch:=omega)only[go_sem,Qi,v,r,dt];refine Y4 w u (by simp;omega) aa x aa 0 ?_;intro Y G P al;simp(disch:=omega)only[go_sem];have Q:(l++br (m-n) 0++[0])=l++br (m+1-n) 0:=by
   rw[(aa:m+1-n=m-n+1),List.replicate_succ',eG]
  refine⟨a-(m+1),aa,m+1,c.next+1,_,rfl,aa,aa,fun t j g=>?_,?_,?_,?_,?_,G,fun y j g=>(P y aa g).trans (z y j g),aa,aa,.inr aa⟩
  ·simp(disch:=omega)only[cc];exact s t j g
  ·simp only[go_sem]
  ·rw[Q,cq (by simp;omega)]
  ·rw[←u];exact(A.take _).app (.mk aj W.aM.nil)
  ·simp;omega
 ·have S:m=a:=aa;subst S;simp(disch:=omega)only[go_sem,v,r,df];refine L _ _ b d (fun t j g=>?_) ?_ u A J w z U x O
  ·simp(disch:=omega)only[cc];exact s t j g
  ·simp only[go_sem,r]
theorem aqb(s:Nat)(f:s≤63)(H:ag):dN 363 [bz [],az (s:Int)] H fun v a=>v=.ak∧a=H:=by
 refine bg Ji ?_;have c:kq (s:Int) 64=0:=by
  show(((s/64:Nat)):Int)=0;omega
 have d:aG .u64 (0:Int)=0:=cj _ aj;have e:¬(64:Int)=0:=aj;have b:((([]:List Nat).length:Nat):Int)=0:=rfl;simp(disch:=omega)only[go_sem,xR,xU,iC,c,d,b,df];exact⟨trivial,trivial⟩
theorem af4(H:ag):dN 248 [.ak] H fun v a=>v=.ak∧a=H:=by
 refine bg aak ?_;have b:nX false (.slice 166) [.ak,.ak]=some (.val cC):=rfl;simp only[go_sem,FV,FW,b];exact⟨trivial,trivial⟩
theorem af5(l n:List Nat)(h:0<l.length∧l.length≤1000000)(b:Nat)(c:Cap)(H:ag)(d:H.get b=.cells (aT (l++n)) 0):dN 248 [.slice b 0 l.length c] H fun v a=>v=.slice (H.next+1) 0 l.length (.grown 1)∧dh a (H.next+1) (H.next+2) (aT l)∧a.next=H.next+3∧∀y,y<H.next→y≠b→a.get y=H.get y:=by
 have j:cr H (H.set b .none) (.slice b 0 l.length c) (bz l):=by
  refine .row (m:=l.length) (cs:=aT l) ?_ h.1 (by rw[ag.a_,ay rfl]) (dy.refl _);rw[gj d,eY,eR,ay (by rw[eD];simp),w_,xh (by rw[eD];exact aR _),cq (by rw[eD];exact aR _)]
 refine(Ym d ⟨0,_,_,dH.2 rfl⟩ (.cons j .nil) (xZ l h (H.set b .none))).mono ?_;rintro _ a ⟨rfl,f,g,i⟩;refine⟨rfl,f,g,fun y k m=>(i y k).trans ?_⟩;rw[ag.a_,au (fun e=>m e.symm)]
theorem agC(m n:Nat)(k:n≠0)(G:2≤(ax n).length)(O:¬m<n)(a6:m%n=0)(lm:(ax m).length<100000)(ln:(ax n).length<100000)(N:Nat):dN 310 [bz (ax m),bz (ax n)] (ag.zero N) fun v _=>∃q,v=.aK [q,.ak]:=by
 refine bg Jh ?_;have h1:(ax n).length≠1:=aa;have a2:=(iE n).2 k;simp(disch:=omega)only[go_sem,Ay,AF];refine use (tJ m n aa aa) ?_;have bo:¬eX (m:Int) (n:Int)<0:=by
  rcases Nat.lt_or_eq_of_le (ja O)with h|h
  ·rw[mJ aa];decide
  ·rw[A9 aa];decide
 have z:(ax n).length≤(ax m).length:=kN (ja O);obtain⟨D,f⟩:∃t,t=(ax n).getD ((ax n).length-1) 0:=⟨_,rfl⟩;have S:=CN n k;have B:=(fV n).getD ((ax n).length-1);rw[←f]at S B;obtain⟨e,K,w⟩:=yo (y:=D) S B;have P:=ym D B;obtain⟨s,Q⟩:∃s,s=64-eB D:=⟨_,rfl⟩;rw[←Q]at e K w P;clear Q;have o:0<2^s:=e8 aj;have x:=B1 k e (by rw[←f];exact w);have y:=yy k e (by rw[←f];exact K) (by rw[←f];exact w);have a0:aG .u64 ((s:Nat):Int)=(s:Int):=cj _ aa;have T:aG .i64 (((ax n).length:Int)-1)=((ax n).length:Int)-1:=aQ _ aa;have R:(((ax n).length:Int)-1).toNat=(ax n).length-1:=aa;obtain⟨c,i⟩:∃l,l=(ax m).length:=⟨_,rfl⟩;obtain⟨l,F⟩:∃l,l=(ax n).length:=⟨_,rfl⟩;rw[←i]at z lm;rw[←F]at a2 ln h1 G z f x y T R;have H:(ax (m*2^s)).length≤c+1:=by
  refine tR ?_;have a:=mN m;rw[←i]at a;have b:2^s≤18446744073709551616:=by rw[q_ (s:=s) aa];exact Nat.le_mul_of_pos_left _ (e8 aj)
  rw[c3];exact ei (ng a o) (fc _ b)
 simp(disch:=omega)only[go_sem,AE,AD,df,←F,T,gw,R,dB,←f];refine use P ?_;simp(disch:=omega)only[go_sem,AB,a0];refine use (wM n s e aa) ?_;have a':aG .i64 ((c:Int)+1)=(c:Int)+1:=aQ _ aa;have a9:((c:Int)+1).toNat=c+1:=aa;simp(disch:=omega)only[go_sem,AA,Az,←i,a',iH,a9,nC];refine use (wM m s e aa) ?_;simp(disch:=omega)only[go_sem];refine Bm (cs:=aT (br (c+1) 0)) (by simp only[go_sem]) H (by rw[eD];simp) ?_;obtain⟨d,g⟩:∃X,X=ax (m*2^s)++br (c+1-(ax (m*2^s)).length) 0:=⟨_,rfl⟩;have I:aT (ax (m*2^s))++(aT (br (c+1) 0)).drop (ax (m*2^s)).length=aT d:=by
  rw[g,w_];congr 1;rw[aT,←List.map_drop,List.drop_replicate];rfl
 have be:W.aM d:=by rw[g];exact(fV _).app (sF _)
 have aw:d.length=c+1:=by rw[g];simp;omega
 have J:W.val d=m*2^s:=by rw[g,W.fl,rE,fT,fe,cO]
 rw[I];clear I g H;obtain⟨j,ab⟩:∃j,c+1-l=j:=⟨_,rfl⟩;have ba:aG .i64 ((c:Int)-(l:Int))=(j:Int)-1:=by rw[aQ _ aa];omega
 have bb:aG .i64 ((j:Int)-1+1)=(j:Int):=by rw[aQ _ aa];omega
 simp(disch:=omega)only[go_sem,AI,AH,←i,ba,bb,iH,nC,bN];have ap:W.val (d.drop j)<W.val (ax (n*2^s)):=by
  have U:=W.oh d j aa;rw[J]at U;have a:=mN m;rw[←i,(aa:c=j+(l-1)),fX]at a;have b:=ng a o;obtain⟨r,E,_⟩:=lM (n*2^s) (tf k aa);rw[x]at E;refine Kt b U ?_;rw[fT,E];have al:2^s≤9223372036854775808:=cI (fN aj e) aj;have Z:=dz (18446744073709551616^(l-1)) (cI al y);rw[b3];exact cI Z (qI _ _)
 refine Iu d (ax (n*2^s)) l c j be (fV _) aw x G ab z aa y N (N+1) aa _ _ _ ?_ ?_ ?_ ?_ ?_ ap ?_ ?_ ?_
 iterate 5 simp only[go_sem]
 ·simp only[go_sem];rw[au aa]
 ·simp only[go_sem]
 intro p Y r V u hr bj bi a5 C A a1 L bs;have h9:rd 9 p=az (s:Int):=(u 9 aj).trans (by simp only[go_sem]);have ad:rd 11 p=.slice N 0 (c+1) (.known (c+1)):=(u 11 aj).trans (by simp only[go_sem]);have ae:rd 12 p=.slice (N+1) 0 j (.known j):=(u 12 aj).trans (by simp only[go_sem]);rw[fu];rw[J,fT]at C;rw[fT]at A;have ar:0<n*2^s:=Nat.mul_pos aa o;have hq:W.val V=m/n:=by
  rw[←Nat.mul_div_mul_right m n o,←C,b3,Nat.mul_add_div ar,lT A,cO]
 have a7:W.val r=m%n*2^s:=by
  rw[←qJ,←C,b3,Nat.mul_add_mod,jr A]
 simp(disch:=omega)only[go_sem,AG,ae];refine iL (pz V aa) L ⟨0,_,_,dH.2 rfl⟩ (.cons (oS L (by rw[ag.a_,ay rfl]) a5) .nil) ?_;simp(disch:=omega)only[go_sem,ad];have M:(Y.set (N+1) .none).get N=.cells (aT (r++br j 0)) 0:=by rw[ag.a_,au aa];exact a1
 have a3:(r++br j 0).length=c+1:=by simp;omega
 refine iL (pz (r++br j 0) aa) M ⟨0,_,_,dH.2 rfl⟩ (.cons (oS M (by rw[ag.a_,ay rfl]) a3) .nil) ?_;have a8:W.trim (r++br j 0)=ax (m%n*2^s):=by
  rw[kX (bj.app (sF _)),W.fl,rE,fe,cO,a7]
 rw[a8,kX bi,hq];have b0:(ax (m%n*2^s)).length<100000:=by
  have:=kN (m:=m%n*2^s) (n:=n*2^s) (dz _ (hD (eK _ aa)));omega
 rw[a6,jE,js];simp(disch:=omega)only[go_sem,h9];refine use (aqb s e) ?_;simp(disch:=omega)only[go_sem];exact⟨_,rfl⟩
theorem agH(m n:Nat)(c:n≠0)(a:2≤(ax n).length)(b:¬m<n)(d:m%n=0)(f:(ax m).length<80)(g:(ax n).length<80)(N:Nat):dN 250 [bz (ax m),bz (ax n)] (ag.zero N) fun v _=>∃q,v=.aK [q,.ak]:=by
 refine bg Jf ?_;simp(disch:=omega)only[go_sem,Ad,Af,Ae,dt];refine(agC m n c a b d aa aa N).mono ?_;rintro _ e ⟨q,rfl⟩;simp only[go_sem];exact⟨q,rfl⟩
def Lh(H:ag)(v:V)(n b g:Nat):Prop:=∃M,v=.slice b 0 (ax n).length (.grown 1)∧dh H b g (aT M)∧M.take (ax n).length=ax n∧W.aM M∧M.length<1000000
theorem JW{b a c:List Nat}(h:d++b=a):(a++c).take d.length=d:=by
 rw[←h,eG,oD]
structure C6 (X Y A B ba By:Nat) (va adi:V) (H:ag):Prop where
 ra:Lh H va A ba By
 a5:5≤ba
 aid:5≤By
 zx:ba<H.next
 gn:By<H.next
 le:B≤A
 zz:A≤X
 gcd:cx A B=cx X Y
 gt:GT H
 rb:(B=0∧adi=.ak)∨∃bb t_,Lh H adi B bb t_∧zh ba By bb t_ H.next∧5≤bb∧5≤t_
set_option maxHeartbeats 1000000 in
theorem aij(K S ac ad be b0:Nat)(hX:(ax K).length<80)(F:Fr)(H:ag)(R:X→Fr→ag→Prop)(dq:C6 K S ac ad be b0 (rd 5 F) (rd 6 F) H)
 (hR:∀F' H' A B g i,C6 K S A B g i (rd 5 F') (rd 6 F') H'→(ax B).length≤1→R (.exit 0) F' H'):bT (.loop E9) R F H:=by
 refine bW (fun k al f=>∃A B g i,k=A+B∧C6 K S A B g i (rd 5 al) (rd 6 al) f) (ac+ad) ⟨ac,ad,be,b0,rfl,dq⟩ ?_;rintro k al f ⟨A,B,g,i,rfl,a⟩;unfold E9;rcases a.rb with⟨V,o⟩|⟨L,n,a7,h,cf,a3⟩
 ·simp(disch:=omega)only[go_sem,o,df];refine hR _ _ A B g i ?_ (by rw[V,js];decide);simpa only[go_sem,↓reduceIte,kz]using a
 have fa:=hX;have a4:=eH (kN a.zz) hX;have ch:=eH (kN a.le) a4;obtain⟨C,U,a1,O,dl,eQ⟩:=a.ra;obtain⟨J,o,Z,E,a',a2⟩:=a7;by_cases a0:1<(ax B).length
 ·have V:0<B:=jP ((iE B).1 aa);simp(disch:=omega)only[go_sem,Qp,U,o,dt];refine(vG (R:=zl A B) (.cons (p5 a1 (ag.gf _ _) rfl O) (.cons (p5 Z (ag.gf _ _) rfl E) .nil)) ((aqf A B a.le a0 aa _).mono ?_)).mono ?_
  ·rintro v e ⟨hs,_⟩;obtain⟨u,w,r,s,t,rfl,a8⟩:=hs;exact⟨_,fun b=>.agg (.cons (.int _ _) (.cons (.int _ _) (.cons (.int _ _) (.cons (.int _ _) (.cons (.bool _) .nil))))),u,w,r,s,t,rfl,a8⟩
  rintro _ f ⟨⟨u,w,r,s,t,rfl,l0,l1,es,m1,eb⟩,rfl⟩;by_cases ed:r=0
  ·simp(disch:=omega)only[go_sem,jj,E8,U,o,dt];obtain⟨e,j⟩:∃e,e=(f.push (.cells [az 0,az 0,az 0,az 0,aq] 0)).set f.next (.cells (jj u w r s t) 0):=⟨_,rfl⟩
   have l:∀y,y<f.next→e.get y=f.get y:=fun y p=>by rw[j,ag.a_,au aa,ag.bE,au aa]
   have d6:e.next=f.next+1:=by rw[j];rfl
   unfold jj at j;rw[←j];clear j;have Y:dh e g i (aT C):=a1.keep (l _ a.zx) (l _ a.gn);have N:dh e L n (aT J):=Z.keep (l _ h.lb') (l _ h.wh);have d2:GT e:=a.gt.keep fun y p=>l y (by have:=a.zx;have:=a.a5;omega)
   have a6:cx B (A%B)=cx K S:=by rw[←a.gcd,oF A B,Nat.gcd_rec B A,oF]
   have e':=a.le;have dE:=a.zz;have cd:=h.lb';have ce:=h.wh;have d5:=eK A V;by_cases hr:A%B=0
   ·refine(vG (R:=fun v=>v=.aK [.any,.ak]) (.cons (p5 Y (ag.gf _ _) rfl O) (.cons (p5 N (ag.gf _ _) rfl E) .nil)) ((agH A B aa a0 aa hr a4 ch _).mono ?_)).mono ?_
    ·rintro v m ⟨q,rfl⟩;exact⟨_,fun b=>.aK (.cons (.any _) (.cons .ak .nil)),rfl⟩
    rintro _ e ⟨rfl,rfl⟩;simp(disch:=omega)only[go_sem,o];refine(af4 _).mono ?_;rintro _ e ⟨rfl,rfl⟩;simp(disch:=omega)only[go_sem];refine⟨B+0,aa,B,0,L,n,rfl,?_⟩;simp only[go_sem];exact⟨⟨J,rfl,N,E,a',a2⟩,cf,a3,aa,aa,aa,aa,by rw[hr]at a6;exact a6,d2,.inl ⟨rfl,rfl⟩⟩
   ·refine(Yl (R:=fun v b cs=>∃I c,v=.aK [.any,.slice b 0 (ax (A%B)).length c]∧cs=aT (ax (A%B)++I)) (.cons (p5 Y (ag.gf _ _) rfl O) (.cons (p5 N (ag.gf _ _) rfl E) .nil)) ((agI A B aa a0 aa hr a4 ch _).mono ?_)).mono ?_
    ·rintro v m ⟨q,b,I,c,rfl,k1,k2,cu⟩;exact⟨_,b,_,.aK (.cons (.any _) (.cons (.slice _ _ _) .nil)),k1,k2,cu,fun x hx=>by
      simp only[aT,nc]at hx;obtain⟨d,_,rfl⟩:=hx;exact⟨_,_,rfl⟩,I,c,rfl,rfl⟩
    rintro _ m ⟨b,cs,⟨I,c,rfl,rfl⟩,k1,k2,cu⟩;simp(disch:=omega)only[go_sem,o];have dT:m.get b=.cells (aT (ax (A%B)++I)) 0:=by rw[cu,ay rfl]
    have G:∀y,y≠b→m.get y=e.get y:=fun y p=>by rw[cu,au p]
    have d':(ax (A%B)).length<1000000:=by
     have:=kN (hD d5);omega
    refine(af5 (ax (A%B)) I ⟨(iE _).2 hr,hD d'⟩ b c m dT).mono ?_;rintro _ z ⟨rfl,j1,j2,el⟩;simp(disch:=omega)only[go_sem];have Q:∀y,y<f.next→z.get y=f.get y:=fun y p=>by rw[el y aa aa,G y aa,l y p]
    refine⟨B+A%B,aa,B,A%B,L,n,rfl,?_⟩;simp only[go_sem];refine⟨⟨J,rfl,Z.keep (Q _ cd) (Q _ ce),E,a',a2⟩,cf,a3,aa,aa,aa,aa,a6,a.gt.keep fun y p=>Q y aa,.inr ⟨_,_,⟨_,rfl,j1,cq (aR _),fV _,aa⟩,⟨aa,aa,aa,aa,aa,aa,aa,aa⟩,aa,aa⟩⟩
  ·simp(disch:=omega)only[go_sem,jj,E8,Qo,df];obtain⟨e,j⟩:∃e,e=(f.push (.cells [az 0,az 0,az 0,az 0,aq] 0)).set f.next (.cells (jj u w r s t) 0):=⟨_,rfl⟩
   have l:∀y,y<f.next→e.get y=f.get y:=fun y p=>by rw[j,ag.a_,au aa,ag.bE,au aa]
   have a8:e.get f.next=.cells (jj u w r s t) 0:=by rw[j,ag.a_,ay rfl]
   have d6:e.next=f.next+1:=by rw[j];rfl
   unfold jj at j;rw[←j];clear j;have Y:dh e g i (aT C):=a1.keep (l _ a.zx) (l _ a.gn);have N:dh e L n (aT J):=Z.keep (l _ h.lb') (l _ h.wh);have cd:=h.lb';have ce:=h.wh;have e1:=a.zx;have e2:=a.gn;have dC:=kN a.le;refine aiu (ax A).length (ax B).length g L n J (ax B) rfl E a' a2 dC aa _ e _ ?_ ?_ N aa aa ?_
   iterate 2 simp only[go_sem,U,o]
   intro bb m T M' hF bo b2 dp ex ds G fd d0 fg;have bj:rd 5 bb=.slice g 0 (ax A).length (.grown 1):=(hF 5 aj aj).trans (by simp only[go_sem,U]);have bO:rd 7 bb=.ptr f.next 0:=(hF 7 aj aj).trans (by simp only[go_sem])
   have ci:m.get f.next=.cells (jj u w r s t) 0:=(G _ aa aa).trans a8
   have du:dh m g i (aT C):=Y.keep (G _ aa h.h2) (G _ aa h.h4);have fi:=h.h1;have fn:=h.h3;have P:zh g i T n m.next:=⟨aa,h.h2,aa,h.h4,aa,aa,d0,aa⟩
   rw[fu];unfold jj at ci;simp(disch:=omega)only[go_sem,Qn,bj,bo,bO,ci];obtain⟨a9,D,b',M⟩:=eb ed;have d7:(ax A).length≤C.length:=by
    have:=congrArg jD O;rw[ep]at this;omega
   have d8:(ax A).length≤M'.length:=by
    have:=congrArg jD b2;rw[ep,bt,vc]at this;omega
   refine(aec C M' (ax A).length u w r s t A B D b' dl dp d7 d8 aa (by rw[O,fT]) (by rw[b2,W.fl,fT,rE,fe,cO]) M a9 l0 l1 es m1 g i T n m du ds P).mono ?_;rintro _ z ⟨ap,bd,la,lb,dd,dk,va,ev,bs,bv,fb,Q⟩;simp(disch:=omega)only[go_sem,Qm,bj];refine(CO ap (ap++C.drop (ax A).length) (ax A).length la (by rw[←la,qG];rfl) (by simp;omega) g i z bs).mono ?_;rintro _ z ⟨rfl,rfl⟩;simp(disch:=omega)only[go_sem,bo];refine(CO bd (bd++M'.drop (ax A).length) (ax A).length lb (by rw[←lb,qG];rfl) (by simp;omega) T n z bv).mono ?_;rintro _ z ⟨rfl,rfl⟩;simp(disch:=omega)only[go_sem];have d4:=M.less aa a9 V;have d3:=M.le;have e0:D≤A:=by
    have:=M.ba;have m1:D≤s*D:=by rw[b3];exact qf a9
    omega
   have co:=CP ap;have cp:=CP bd;rw[kX dd,va]at co⊢;rw[kX dk,ev]at cp⊢;obtain⟨fr,d9⟩:=co;obtain⟨fs,a7⟩:=cp;have dE:=a.zz;have dv:=a.a5;have d1:=a.aid;refine⟨D+b',d4,D,b',g,i,rfl,?_⟩;simp only[go_sem];refine⟨⟨_,rfl,bs,JW d9,dd.app (dl.drop _),by simp;omega⟩,dv,d1,aa,aa,d3,aa,by rw[M.gcd];exact a.gcd,a.gt.keep fun y p=>?_,.inr ⟨T,n,⟨_,rfl,bv,JW a7,dk.app (dp.drop _),by simp;omega⟩,⟨P.h1,P.h2,P.h3,P.h4,aa,aa,aa,aa⟩,aa,a3⟩⟩;rw[Q y aa aa aa aa aa,G y aa aa,l y aa]
 ·simp(disch:=omega)only[go_sem,o,df];refine hR _ _ A B g i ?_ aa;simpa only[go_sem,↓reduceIte,kz]using a
theorem aii(m n:Nat)(lm:(ax m).length<80)(ln:(ax n).length<80):ff 188 [bz (ax m),bz (ax n)] (bz (ax (cx m n))):=by
 refine fK (.cons (dA _) (.cons (dA _) .nil)) (bg ak1 ?_)
 have O:∀(a b:Nat) (F:Fr),b≤a→(ax a).length<80→cx a b=cx m n→rd 0 F=bz (ax a)→rd 1 F=bz (ax b)→
  bT zT (gl [.tmp 4] fun v1 f=>GT f∧∃v,cr f (dG.lW f.next) v1 v∧bZ v∧v=bz (ax (cx m n))) F dG:=by
  intro a b F E J l w i;have bc:=kN E;by_cases D:b=0
  ·subst D;rw[js]at i;rw[Nat.gcd_zero_right]at l;have M:((([]:List Nat).length:Nat):Int)=0:=rfl;simp only[go_sem,zT,w,i,M,decide_true];rw[l];exact cX gv rfl (dA _)
  ·have ha:a≠0:=aa;have a8:=(iE b).2 D;simp(disch:=omega)only[go_sem,zT,Qk,w,i,df];refine(xZ (ax a) ⟨aa,aa⟩ _).mono ?_;rintro _ f ⟨rfl,x,t,H⟩;simp(disch:=omega)only[go_sem,i];refine(xZ (ax b) ⟨aa,aa⟩ _).mono ?_;rintro _ P ⟨rfl,z,Z,o⟩;have R:dG.next=5:=rfl
   rw[R]at t x H;rw[t]at Z z o;rw[t];simp(disch:=omega)only[go_sem,Qj];have ac:∀y,y<5→P.get y=dG.get y:=fun y hy=>(o y aa).trans (H y hy)
   refine aij a b a b 6 7 J _ _ _ ?_ ?_
   ·simp only[go_sem];exact⟨⟨ax a,rfl,x.keep (o _ aj) (o _ aj),cq (aR _),fV _,aa⟩,aj,aj,aa,aa,E,aR _,rfl,gv.keep ac,.inr ⟨9,10,⟨ax b,rfl,z,cq (aR _),fV _,aa⟩,⟨aj,aj,aj,aj,aa,aa,aa,aa⟩,aj,aj⟩⟩
   intro am u A B Q aw c a2;rw[fu];obtain⟨ar,q,r,s,bd,a3⟩:=c.ra;have a1:=eH (kN c.zz) J;have L:∀N,(dG.lW N).get Q=.none:=fun N=>by
    have:=c.a5;rw[ag.ua,lq,au aa,au aa,au aa]
   have G:B=0→ax A=ax (cx m n):=fun e=>by
    have:=c.gcd;rw[e,Nat.gcd_zero_right]at this;rw[this,l]
   have M:((([]:List Nat).length:Nat):Int)=0:=rfl;rcases c.rb with⟨d,j⟩|⟨p,a0,⟨g,j,S,C,be,a4⟩,a7,a9,a'⟩
   ·simp(disch:=omega)only[go_sem,zU,q,j,decide_true];exact⟨c.gt,_,p5 r (L _) rfl s,dA _,by rw[G d]⟩
   ·by_cases d:B=0
    ·have bb:(ax B).length=0:=by rw[d,js];rfl
     simp(disch:=omega)only[go_sem,zU,q,j,dt];exact⟨c.gt,_,p5 r (L _) rfl s,dA _,by rw[G d]⟩
    ·have I:(ax B).length=1:=by have:=(iE B).2 d;omega
     have k:B<18446744073709551616:=by
      have:=mN B;rw[I,Nat.pow_one]at this;exact this
     have T:g.getD 0 0=B:=by
      have e:(g.take (ax B).length).getD 0 0=g.getD 0 0:=by
       rw[I];simp only[c_];rw[List.getElem?_take,ay aj]
      rw[←e,C,IC d k];rfl
     have U:0<g.length:=by
      have:=congrArg jD C;rw[ep]at this;omega
     have K:hH false 1 [.ptr p 0] u=some (az (B:Int)):=by rw[q5 S,dB U,T]
     have Y:A%B<18446744073709551616:=oG (eK _ (jP d)) k;have W:cx B (A%B)=cx m n:=by rw[←l,←c.gcd,oF A B,Nat.gcd_rec B A,oF]
     have ba:cx B (A%B)≤B:=Nat.gcd_le_left _ (jP d);have X:dY none 1 [.slice p 0 (ax B).length (.grown 1),ai 0]=some (.val (.ptr p 0)):=cR aa;simp(disch:=omega)only[go_sem,zU,Qq,q,j,df,X,K];refine(vG (R:=fun v=>v=az ((A%B:Nat):Int)) (.cons (p5 r (ag.gf _ _) rfl s) (.cons (.same _) .nil)) ((apB (ax A) B (fV A) ⟨jP d,k⟩ aa _).mono ?_)).mono ?_
     ·rintro v H4 ⟨rfl,_⟩;exact⟨_,fun b=>.int _ _,by rw[fT]⟩
     rintro _ u ⟨rfl,rfl⟩;simp(disch:=omega)only[go_sem,K,true_and];refine cy (aih B (A%B) k Y) c.gt ?_;simp only[go_sem];refine use (Bu _ aa) ?_;simp only[go_sem];rw[W];exact cX c.gt rfl (dA _)
 simp only[go_sem,Qh,Ql];refine use (tJ m n aa aa) ?_;by_cases h:m<n
 ·have V:eX m n<0:=by rw[mK aa];decide
  simp(disch:=assumption)only[go_sem,dt];refine O n m _ aa ln (oF _ _) ?_ ?_
  iterate 2 simp only[go_sem]
 ·have V:¬eX m n<0:=by
   unfold eX;rw[au aa];split<;>decide
  simp(disch:=assumption)only[go_sem,df];refine O m n _ aa lm rfl ?_ ?_
  iterate 2 simp only[go_sem]
def dU(b:Nat)(z:Int):Prop:=z.natAbs<2^b
variable{r:Int}
theorem dU.mono{a:Nat}(h:dU a r)(b:a≤g):dU g r:=ei h (fN aj b)
theorem dU.add{y:Int}(b:dU a r)(c:dU g y)(i:a+1≤z)(j:g+1≤z):dU z (r+y):=by
 have d:=b.mono (aa:a≤z-1);have e:=c.mono (aa:g≤z-1);unfold dU at*;have f:=Int.natAbs_add_le r y;have h:(2:Nat)^z=2^(z-1)*2:=by rw[←c3,Nat.succ_eq_add_one,(aa:z-1+1=z)]
 omega
theorem dU.mul{y:Int}(c:dU a r)(d:dU g y)(b:a+g≤z):dU z (r*y):=by
 refine dU.mono (a:=a+g) ?_ b;unfold dU at*;rw[nH,fX];exact Nat.mul_lt_mul'' c d
theorem dU.nat(h:g<2^a):dU a (g:Int):=by unfold dU;rw[cV];exact h
theorem dU.len{k:Nat}(h:dU a r)(b:a≤64*k):(ax r.natAbs).length≤k:=by
 refine tR (ei h ?_);rw[(aj:(18446744073709551616:Nat)=2^64),←Nat.pow_mul];exact fN aj b
theorem CU(x y:Int)(k:(ax x.natAbs).length<100000)(l:(ax y.natAbs).length<100000):bA 177 [b6 x,b6 y] (b6 (x+y)):=by
 refine e3 (.cons (fh _) (.cons (fh _) .nil)) (bg akS ?_);have f:∀ {z w:Int},z=w→∀H:ag,∃u,cr H (ag.zero H.next) (.agg (c5 z)) u∧bZ u∧u=b6 w:=fun e H=>g8 (by rw[e];rfl) (fh _)
 have o:=tJ x.natAbs y.natAbs aa aa;have r:∀s:Bool,decide (x<0)=s→decide (y<0)=s→(if s then-((x.natAbs+y.natAbs:Nat):Int)else((x.natAbs+y.natAbs:Nat):Int))=x+y:=by
  intro s c d;cases s with
  |true=>have:=of_decide_eq_true c;have:=of_decide_eq_true d;rw[ay rfl];omega
  |false=>have:=of_decide_eq_false c;have:=of_decide_eq_false d;rw[au aj];omega
 have m:∀s t:Bool,decide (x<0)=s→decide (y<0)=t→s≠t→y.natAbs≤x.natAbs→(if s then-((x.natAbs-y.natAbs:Nat):Int)else((x.natAbs-y.natAbs:Nat):Int))=x+y:=by
  intro s t c d a q;cases s with
  |true=>
   cases t with
   |true=>exact absurd rfl a
   |false=>have:=of_decide_eq_true c;have:=of_decide_eq_false d;rw[ay rfl];omega
  |false=>
   cases t with
   |false=>exact absurd rfl a
   |true=>have:=of_decide_eq_false c;have:=of_decide_eq_true d;rw[au aj];omega
 have n:∀s t:Bool,decide (x<0)=s→decide (y<0)=t→s≠t→x.natAbs≤y.natAbs→(if t then-((y.natAbs-x.natAbs:Nat):Int)else((y.natAbs-x.natAbs:Nat):Int))=x+y:=by
  intro s t c d a q;cases s with
  |true=>
   cases t with
   |true=>exact absurd rfl a
   |false=>have:=of_decide_eq_true c;have:=of_decide_eq_false d;rw[au aj];omega
  |false=>
   cases t with
   |false=>exact absurd rfl a
   |true=>have:=of_decide_eq_false c;have:=of_decide_eq_true d;rw[ay rfl];omega
 generalize i:decide (x<0)=s at*
 generalize j:decide (y<0)=t at*
 by_cases a:s=t
 ·subst a;have e:=r s rfl rfl;have g:∀b:Bool,nX false .bool [.bool b,.bool b]=some (.val cC):=fun b=>by cases b<;>rfl
  simp only[go_sem,EX,EY,b6,c5,i,j,g];refine use (adU x.natAbs y.natAbs k l) ?_;simp only[go_sem,true_and];refine use (uM s _) ?_;simp only[go_sem,b6,c5];exact f e _
 ·have g:nX false .bool [.bool s,.bool t]=some (.val aq):=by cases s<;>cases t<;>first|rfl|exact absurd rfl a
  simp only[go_sem,EX,EY,Py,b6,c5,i,j,g];refine use o ?_;by_cases h:y.natAbs≤x.natAbs
  ·have e:=m s t rfl rfl a h;have p:¬eX (x.natAbs:Int) (y.natAbs:Int)<0:=by
    unfold eX;rw[au aa];split<;>decide
   simp(disch:=assumption)only[go_sem,df];refine use (acV x.natAbs y.natAbs h k) ?_;simp only[go_sem,true_and];refine use (uM s _) ?_;simp only[go_sem,b6,c5];exact f e _
  ·have e:=n s t rfl rfl a aa;have p:eX (x.natAbs:Int) (y.natAbs:Int)<0:=by rw[mK aa];decide
   simp(disch:=assumption)only[go_sem,Px,dt];refine use (acV y.natAbs x.natAbs aa l) ?_;simp only[go_sem,true_and];refine use (uM t _) ?_;simp only[go_sem,b6,c5];exact f e _
theorem Md(s t:Bool):nX true .bool [.bool s,.bool t]=some (.val (.bool (!(s==t)))):=by cases s<;>cases t<;>rfl
theorem ar'(x y:Int)(n:Nat)(h:n=x.natAbs*y.natAbs):(if(!(decide (x<0)==decide (y<0)))=true then-(n:Int)else(n:Int))=x*y:=by
 subst h;rw[e7];by_cases b:x<0
 ·by_cases a:y<0
  ·rw[bw b,bw a,au aj,(aa:(x.natAbs:Int)= -x),(aa:(y.natAbs:Int)= -y),Int.neg_mul_neg]
  ·rw[bw b,bp a,ay aj,(aa:(x.natAbs:Int)= -x),(aa:(y.natAbs:Int)=y),Int.neg_mul,Int.neg_neg]
 ·by_cases a:y<0
  ·rw[bp b,bw a,ay aj,(aa:(x.natAbs:Int)=x),(aa:(y.natAbs:Int)= -y),Int.mul_neg,Int.neg_neg]
  ·rw[bp b,bp a,au aj,(aa:(x.natAbs:Int)=x),(aa:(y.natAbs:Int)=y)]
theorem pD(x y:Int)(a:(ax x.natAbs).length<40)(b:(ax y.natAbs).length<40):bA 173 [b6 x,b6 y] (b6 (x*y)):=by
 refine e3 (.cons (fh _) (.cons (fh _) .nil)) (bg akO ?_);simp only[go_sem,Pq,Pr,b6,c5,Md];refine use (anD x.natAbs y.natAbs a b) ?_;simp only[go_sem,true_and];refine use (uM _ _) ?_;rw[ar' x y _ rfl];simp only[go_sem,b6,c5];exact g8 rfl (fh _)
theorem adp(x y:Int)(e:(ax x.natAbs).length<100000)(f:(ax y.natAbs).length<100000):bA 172 [b6 x,b6 y] (ai (eX x y)):=by
 refine cT (.cons (fh _) (.cons (fh _) .nil)) (.int _ _) (bg akN ?_);have c:=tJ x.natAbs y.natAbs aa aa;have d:=tJ y.natAbs x.natAbs aa aa;by_cases b:x<0
 ·by_cases a:y<0
  ·simp only[go_sem,xL,xM,b6,c5,bw b,bw a];refine use d ?_;simp only[go_sem];unfold eX;congr 1;split<;>split<;>(try split)<;>(try split)<;>omega
  ·simp only[go_sem,xL,xM,b6,c5,bw b,bp a];rw[mK aa]
 ·by_cases a:y<0
  ·simp only[go_sem,xL,xM,b6,c5,bp b,bw a];rw[mJ aa]
  ·simp only[go_sem,xL,xM,Pp,b6,c5,bp b,bp a];refine use c ?_;simp only[go_sem];unfold eX;congr 1;split<;>split<;>(try split)<;>(try split)<;>omega
theorem ar8(x:Int):bA 234 [b6 x] (ai x.sign):=by
 refine cT (.cons (fh _) .nil) (.int _ _) (bg alc ?_);have c:=iE x.natAbs;by_cases b:x=0
 ·have e:(((ax x.natAbs).length:Nat):Int)=0:=aa;simp(disch:=omega)only[go_sem,z5,z6,b6,c5,dt];rw[b];rfl
 ·have e:¬(((ax x.natAbs).length:Nat):Int)=0:=aa;by_cases a:x<0
  ·simp(disch:=omega)only[go_sem,z5,z6,b6,c5,df,bw a];rw[Int.sign_eq_neg_one_of_neg a]
  ·simp(disch:=omega)only[go_sem,z5,z6,Rr,b6,c5,df];rw[Int.sign_eq_one_of_pos aa]
theorem xb(x:Int):bA 124 [b6 x] (.bool (decide (x=1))):=by
 refine cT (.cons (fh _) .nil) (.bool _) (bg akt ?_);by_cases b:x<0
 ·simp(disch:=omega)only[go_sem,zE,zF,b6,c5,bw b,df]
 ·have h:=iE x.natAbs;by_cases a:(ax x.natAbs).length=1
  ·have f:dY none 1 [bz (ax x.natAbs),ai 0]=some (.val (.dm (aT (ax x.natAbs)) 0)):=gw ⟨aj,aa⟩;have g:(ax x.natAbs).getD 0 0=x.natAbs:=by
    obtain⟨r,c,d⟩:=lM x.natAbs aa;rw[a]at c d;simp only[lV,mF,dQ]at c d;omega
   have e:decide (((x.natAbs:Nat):Int)=1)=decide (x=1):=decide_eq_decide.2 aa;simp(disch:=omega)only[go_sem,zE,zF,b6,c5,bp b,dt,f,dB,g,e]
  ·have i:x≠1:=fun e=>by
    rw[e]at a;exact a (by rw[show(1:Int).natAbs=1 from rfl,agY];rfl)
   simp(disch:=omega)only[go_sem,zE,zF,b6,c5,bp b,df]
theorem tdiv_sign(x y:Int)(n:Nat)(h:n=x.natAbs/y.natAbs):(if(!(decide (x<0)==decide (y<0)))=true then-(n:Int)else(n:Int))=kq x y:=by
 subst h;by_cases d:x<0
 ·obtain⟨a,rfl⟩:∃a:Nat,x= -(a:Int):=⟨x.natAbs,aa⟩;by_cases c:y<0
  ·obtain⟨b,rfl⟩:∃b:Nat,y= -(b:Int):=⟨y.natAbs,aa⟩;rw[bw d,bw c,au aj,Int.neg_tdiv,Int.tdiv_neg,Int.neg_neg,lO,lO,cV,cV];rfl
  ·obtain⟨b,rfl⟩:∃b:Nat,y=(b:Int):=⟨y.natAbs,aa⟩;rw[bw d,bp c,ay aj,Int.neg_tdiv,lO,cV,cV];rfl
 ·obtain⟨a,rfl⟩:∃a:Nat,x=(a:Int):=⟨x.natAbs,aa⟩;by_cases c:y<0
  ·obtain⟨b,rfl⟩:∃b:Nat,y= -(b:Int):=⟨y.natAbs,aa⟩;rw[bp d,bw c,ay aj,Int.tdiv_neg,lO,cV,cV];rfl
  ·obtain⟨b,rfl⟩:∃b:Nat,y=(b:Int):=⟨y.natAbs,aa⟩;rw[bp d,bp c,au aj,cV,cV];rfl
theorem aq7(x y:Int)(n:Nat)(h:n=x.natAbs%y.natAbs):(if decide (x<0)=true then-(n:Int)else(n:Int))=lP x y:=by
 subst h;obtain⟨b,c⟩:∃b:Nat,y.natAbs=b:=⟨_,rfl⟩;have f:lP x y=lP x (b:Int):=by
  rcases Int.natAbs_eq y with e|e
  ·rw[e,c]
  ·rw[e,c,Int.tmod_neg]
 rw[f,c];by_cases d:x<0
 ·obtain⟨a,rfl⟩:∃a:Nat,x= -(a:Int):=⟨x.natAbs,aa⟩;rw[bw d,ay rfl,Int.neg_tmod,lO,cV];rfl
 ·obtain⟨a,rfl⟩:∃a:Nat,x=(a:Int):=⟨x.natAbs,aa⟩;rw[bp d,au aj,cV];rfl
theorem ar3(x y:Int)(d:y≠0)(a:(ax x.natAbs).length<80)(b:(ax y.natAbs).length<80):bA 241 [b6 x,b6 y] (.aK [b6 (kq x y),b6 (lP x y)]):=by
 refine e3 (.cons (fh _) (.cons (fh _) .nil)) (bg alj ?_);have c:=(iE y.natAbs).2 aa;simp(disch:=omega)only[go_sem,RG,RJ,RI,b6,c5,df];refine use (agG x.natAbs y.natAbs aa a b) ?_;simp only[go_sem,RH,Md];refine use (uM _ _) ?_;rw[tdiv_sign x y _ rfl];simp only[go_sem,true_and];refine use (uM _ _) ?_;rw[aq7 x y _ rfl];simp only[go_sem,b6,c5];exact g8 rfl (.aK (.cons (fh _) (.cons (fh _) .nil)))
theorem xd(x y:Int)(d:y≠0)(e:(ax x.natAbs).length<80)(f:(ax y.natAbs).length<80):bA 178 [b6 x,b6 y] (b6 (kq x y)):=by
 refine e3 (.cons (fh _) (.cons (fh _) .nil)) (bg akT ?_);have a:=xb y;have c:=ar3 x y d e f;unfold b6 c5 at c a;by_cases b:y=1
 ·rw[bw b]at a;simp only[go_sem,EZ,E0,b6,c5];refine use a ?_;simp only[go_sem];exact g8 (by rw[b,Int.tdiv_one]) (fh _)
 ·rw[bp b]at a;simp only[go_sem,EZ,E0,PA,Pz,b6,c5];refine use a ?_;simp only[go_sem];refine use c ?_;simp only[go_sem];exact g8 rfl (fh _)
def jB:List UInt8:=[48,48,48,49,48,50,48,51,48,52,48,53,48,54,48,55,48,56,48,57,49,48,49,49,49,50,49,51,49,52,49,53,49,54,49,55,49,56,49,57,50,48,50,49,50,50,50,51,50,52,50,53,50,54,50,55,50,56,50,57,51,48,51,49,51,50,51,51,51,52,51,53,51,54,51,55,51,56,51,57,52,48,52,49,52,50,52,51,52,52,52,53,52,54,52,55,52,56,52,57,53,48,53,49,53,50,53,51,53,52,53,53,53,54,53,55,53,56,53,57,54,48,54,49,54,50,54,51,54,52,54,53,54,54,54,55,54,56,54,57,55,48,55,49,55,50,55,51,55,52,55,53,55,54,55,55,55,56,55,57,56,48,56,49,56,50,56,51,56,52,56,53,56,54,56,55,56,56,56,57,57,48,57,49,57,50,57,51,57,52,57,53,57,54,57,55,57,56,57,57]
def Bc:List UInt8:=[48,49,50,51,52,53,54,55,56,57,97,98,99,100,101,102,103,104,105,106,107,108,109,110,111,112,113,114,115,116,117,118,119,120,121,122]
def aeN:ah:=aB [af 53 9,ao 4 53]
def aeO:ah:=an [af 45 0,c7 46 .u64 45,af 47 1,af 48 0,bH 49 .lss 48 0,ex 50 (bF 294 [(kc .ak),(rd 46),(rd 47),(rd 49),(kc aq)]),af 44 50,bn 51 0 44,bn 52 1 44,ao 8 51,ao 9 52] aeN
def z2:ah:=bm [af 10 1,bH 11 .eql 10 10] 11 (bm [af 12 0,ex 13 (bi .leq (kc (ai 0)) (rd 12)),af 14 13,bG 14 true 15 0,ef 14 true 16 .lss 15 100,dM 17 14 16] 17 (aB [af 18 0,bk 19 291 18,ao 4 19]) (an [ex 5 (alloc [(.int .u8 0),(.int .u8 0),(.int .u8 0),(.int .u8 0),(.int .u8 0),(.int .u8 0),(.int .u8 0),(.int .u8 0),(.int .u8 0),(.int .u8 0),(.int .u8 0),(.int .u8 0),(.int .u8 0),(.int .u8 0),(.int .u8 0),(.int .u8 0),(.int .u8 0),(.int .u8 0),(.int .u8 0),(.int .u8 0),(.int .u8 0),(.int .u8 0),(.int .u8 0),(.int .u8 0)])] (an [af 20 0,c7 21 .u64 20,ao 6 21] (bm [af 22 0,bH 23 .lss 22 0] 23 (.aH [af 24 6,ex 25 (neg (rd 24)),ao 6 25]) (an [af 26 6,bk 27 292 26,ao 7 27] (an [af 28 7,ex 29 (bi .add (kc (ai 1)) (rd 28)),ex 30 (mY 24 1 true true false [(rd 5),(kc (ai 1)),(rd 29)]),af 31 6,bf 32 293 30 31] (bm [af 33 0,bH 34 .lss 33 0] 34 (an [ex 35 (dX (some 24) 1 (rd 5) (kc (ai 0))),eP (st 1 (rd 35) (kc (.int .u8 45)))] (aB [af 36 7,ex 37 (bi .add (kc (ai 1)) (rd 36)),ex 38 (mY 24 1 false true false [(rd 5),(rd 37)]),ex 39 (tL (rd 38)),ao 4 39])) (aB [af 40 7,ex 41 (bi .add (kc (ai 1)) (rd 40)),ex 42 (mY 24 1 true true false [(rd 5),(kc (ai 1)),(rd 41)]),ex 43 (tL (rd 42)),ao 4 43])))))))) aeO
def z1:ah:=an [aP 4 (.str [])] z2
theorem aah:aZ Tryz.f229 229 z1 [.tmp 4]:=bh
def FE:ah:=aB [af 17 0,af 18 7,af 19 2,kG 20 295 17 18 19,ao 6 20]
def FF:ah:=bm [af 10 1,bH 11 .lss 10 0] 11 (an [af 12 0,ex 13 (cW 1 [(0,1)] [(.int .u8 0)] [(kc (.int .u8 45))]),eo 14 1 1 12 13,ao 0 14] (.aH [af 15 7,ex 16 (neg (rd 15)),ao 7 16])) FE
def FG:ah:=an [af 8 1,c7 9 .u64 8,ao 7 9] FF
def FD:ah:=an [aP 6 .ak] FG
theorem aai:aZ Tryz.f230 230 FD [.tmp 6]:=bh
def ae6:ah:=aB [af 35 0,ao 6 35]
def ae7:ah:=an [af 29 0,af 30 1,af 31 2,ex 32 (bF 294 [(rd 29),(rd 30),(rd 31),(kc aq),(kc cC)]),af 28 32,bn 33 0 28,bn 34 1 28,ao 0 33] ae6
def Ge:ah:=bm [af 9 2,bH 10 .eql 9 10] 10 (bm [af 11 1,bR 12 .lss 11 .u64 100] 12 (aB [af 13 0,af 14 1,c7 15 .i64 14,bk 16 291 15,eo 17 1 1 13 16,ao 6 17]) (an [ex 7 (alloc [(.int .u8 0),(.int .u8 0),(.int .u8 0),(.int .u8 0),(.int .u8 0),(.int .u8 0),(.int .u8 0),(.int .u8 0),(.int .u8 0),(.int .u8 0),(.int .u8 0),(.int .u8 0),(.int .u8 0),(.int .u8 0),(.int .u8 0),(.int .u8 0),(.int .u8 0),(.int .u8 0),(.int .u8 0),(.int .u8 0),(.int .u8 0),(.int .u8 0),(.int .u8 0),(.int .u8 0)])] (an [af 18 1,bk 19 292 18,ao 8 19] (an [af 20 8,ex 21 (mY 24 1 false true false [(rd 7),(rd 20)]),af 22 1,bf 23 293 21 22] (aB [af 24 0,af 25 8,ex 26 (mY 24 1 false true false [(rd 7),(rd 25)]),eo 27 1 1 24 26,ao 6 27]))))) ae7
def Gd:ah:=an [aP 6 .ak] Ge
theorem aal:aZ Tryz.f295 295 Gd [.tmp 6]:=bh
def SY:ah:=aB [af 9 0,bH 10 .mul 9 2,af 11 0,bH 12 .mul 11 2,b9 13 12 2,ex 14 (lJ true true false [(kc (.str jB)),(rd 10),(rd 13)]),ao 2 14]
def F_:ah:=bm [af 3 0,bH 4 .lss 3 10] 4 (aB [af 5 0,af 6 0,b9 7 6 1,ex 8 (lJ true true false [(kc (.str Bc)),(rd 5),(rd 7)]),ao 2 8]) SY
def F9:ah:=an [aP 2 (.str [])] F_
theorem alA:aZ Tryz.f291 291 F9 [.tmp 2]:=bh
def S0:ah:=aB [af 7 3,af 8 0,af 9 3,ex 10 (dX (some 20) 1 (kc (.ptr 0 0)) (rd 9)),aC 11 10,bD 12 .geq 8 11,bk 13 351 12,cU 14 7 13,ao 2 14]
def S1:ah:=an [af 4 0,bk 5 218 4,bk 6 350 5,ao 3 6] S0
def SZ:ah:=an [bI 2 0] S1
theorem alB:aZ Tryz.f292 292 SZ [.tmp 2]:=bh
def S3:ah:=.aH [af 94 4,cL 95 94 8,ao 4 95]
def S4:ah:=an [af 81 0,af 82 4,cL 83 82 7,af 84 0,af 85 4,cL 86 85 8,af 87 10,bR 88 .add 87 .u32 1,ex 89 (g9 (kc (.str jB)) (rd 88)),af 90 10,ex 91 (g9 (kc (.str jB)) (rd 90)),aX 92 1 81 83,aF 1 92 89,aX 93 1 84 86,aF 1 93 91] S3
def S7:ah:=an [af 68 0,af 69 4,cL 70 69 5,af 71 0,af 72 4,cL 73 72 6,af 74 11,bR 75 .add 74 .u32 1,ex 76 (g9 (kc (.str jB)) (rd 75)),af 77 11,ex 78 (g9 (kc (.str jB)) (rd 77)),aX 79 1 68 70,aF 1 79 76,aX 80 1 71 73,aF 1 80 78] S4
def S8:ah:=an [af 55 0,af 56 4,cL 57 56 3,af 58 0,af 59 4,cL 60 59 4,af 61 8,bR 62 .add 61 .u32 1,ex 63 (g9 (kc (.str jB)) (rd 62)),af 64 8,ex 65 (g9 (kc (.str jB)) (rd 64)),aX 66 1 55 57,aF 1 66 63,aX 67 1 58 60,aF 1 67 65] S7
def Gc:ah:=an [af 42 0,af 43 4,cL 44 43 1,af 45 0,af 46 4,cL 47 46 2,af 48 9,bR 49 .add 48 .u32 1,ex 50 (g9 (kc (.str jB)) (rd 49)),af 51 9,ex 52 (g9 (kc (.str jB)) (rd 51)),aX 53 1 42 44,aF 1 53 50,aX 54 1 45 47,aF 1 54 52] S8
def S9:ah:=an [af 36 6,bR 37 .quo 36 .u32 100,bR 38 .mul 37 .u32 2,af 39 6,bR 40 .rem 39 .u32 100,bR 41 .mul 40 .u32 2,ao 10 38,ao 11 41] Gc
def S_:ah:=an [af 30 7,bR 31 .quo 30 .u32 100,bR 32 .mul 31 .u32 2,af 33 7,bR 34 .rem 33 .u32 100,bR 35 .mul 34 .u32 2,ao 8 32,ao 9 35] S9
def Ta:ah:=an [af 26 5,bR 27 .quo 26 .u32 10000,af 28 5,bR 29 .rem 28 .u32 10000,ao 6 27,ao 7 29] S_
def Tb:ah:=an [af 24 1,bR 25 .quo 24 .u64 100000000,ao 1 25] Ta
def Tc:ah:=.block 1 (an [af 21 1,bR 22 .rem 21 .u64 100000000,c7 23 .u32 22,ao 5 23] Tb)
def Ga:ah:=.seq (an [af 19 4,bH 20 .geq 19 8] (bl 20 .skip (.exit 0))) Tc
def Gb:ah:=bl 161 (.aH [af 162 0,af 163 12,ex 164 (bi .add (kc (.int .u32 48)) (rd 163)),c7 165 .u8 164,ex 166 (dX none 1 (rd 162) (kc (ai 0))),aF 1 166 165]) .skip
def Ao:ah:=an [af 160 4,bH 161 .gtr 160 0] Gb
def Ap:ah:=bm [af 138 4,bH 139 .geq 138 2] 139 (an [af 140 12,bR 141 .rem 140 .u32 100,bR 142 .mul 141 .u32 2,ao 16 142] (an [af 143 12,bR 144 .quo 143 .u32 100,ao 12 144] (an [af 145 0,af 146 4,cL 147 146 1,af 148 0,af 149 4,cL 150 149 2,af 151 16,bR 152 .add 151 .u32 1,ex 153 (g9 (kc (.str jB)) (rd 152)),af 154 16,ex 155 (g9 (kc (.str jB)) (rd 154)),aX 156 1 145 147,aF 1 156 153,aX 157 1 148 150,aF 1 157 155] (.aH [af 158 4,cL 159 158 2,ao 4 159])))) Ao
def Aq:ah:=bm [af 98 4,bH 99 .geq 98 4] 99 (an [af 100 12,bR 101 .rem 100 .u32 10000,ao 13 101] (an [af 102 12,bR 103 .quo 102 .u32 10000,ao 12 103] (an [af 104 13,bR 105 .quo 104 .u32 100,bR 106 .mul 105 .u32 2,af 107 13,bR 108 .rem 107 .u32 100,bR 109 .mul 108 .u32 2,ao 14 106,ao 15 109] (an [af 110 0,af 111 4,cL 112 111 1,af 113 0,af 114 4,cL 115 114 2,af 116 15,bR 117 .add 116 .u32 1,ex 118 (g9 (kc (.str jB)) (rd 117)),af 119 15,ex 120 (g9 (kc (.str jB)) (rd 119)),aX 121 1 110 112,aF 1 121 118,aX 122 1 113 115,aF 1 122 120] (an [af 123 0,af 124 4,cL 125 124 3,af 126 0,af 127 4,cL 128 127 4,af 129 14,bR 130 .add 129 .u32 1,ex 131 (g9 (kc (.str jB)) (rd 130)),af 132 14,ex 133 (g9 (kc (.str jB)) (rd 132)),aX 134 1 123 125,aF 1 134 131,aX 135 1 126 128,aF 1 135 133] (.aH [af 136 4,cL 137 136 4,ao 4 137])))))) Ap
def S5:ah:=an [af 96 1,c7 97 .u32 96,ao 12 97] Aq
def S6:ah:=.seq (.block 0 (.loop Ga)) S5
def S2:ah:=an [af 17 0,aY 18 17,ao 4 18] S6
theorem alC:aZ Tryz.f293 293 S2 []:=bh
def Te:ah:=aB [af 7 0,af 8 1,af 9 2,kG 10 295 7 8 9,ao 6 10]
def Td:ah:=an [aP 6 .ak] Te
theorem aam:aZ Tryz.f296 296 Td [.tmp 6]:=bh
def OU:ah:=aB [af 5 0,af 6 1,bf 7 229 5 6,ao 4 7]
def OT:ah:=an [aP 4 (.str [])] OU
theorem aac:aZ Tryz.f161 161 OT [.tmp 4]:=bh
def OW:ah:=aB [af 7 0,af 8 1,af 9 2,kG 10 230 7 8 9,ao 6 10]
def OV:ah:=an [aP 6 .ak] OW
theorem aad:aZ Tryz.f162 162 OV [.tmp 6]:=bh
def UJ:ah:=aB [af 3 0,bH 4 .mul 3 78913,bR 5 .shr 4 .u64 18,ao 2 5]
def UI:ah:=an [bI 2 0] UJ
theorem alQ:aZ Tryz.f350 350 UI [.tmp 2]:=bh
def UK:ah:=aB [bI 2 0]
def GP:ah:=bm [af 3 0] 3 (aB [bI 2 1]) UK
def GO:ah:=an [bI 2 0] GP
theorem alR:aZ Tryz.f351 351 GO [.tmp 2]:=bh
theorem ze(x y:Int)(b:(ax x.natAbs).length<80)(c:(ax y.natAbs).length<80):ff 123 [b6 x,b6 y] (b6 (cx x.natAbs y.natAbs:Nat)):=by
 refine fK (.cons (fh _) (.cons (fh _) .nil)) (bg aks ?_);simp only[go_sem,NJ,NK,b6,c5];have a:GT (((dG.push (.cells [.bool (decide (x<0)),bz (ax x.natAbs)] 0)).push (.cells [.bool (decide (y<0)),bz (ax y.natAbs)] 0)).push (.cells [aq,.ak] 0)):=
  ((gv.push aj _).push (by show 5≤6;decide) _).push (by show 5≤7;decide) _
 refine cy (aii _ _ b c) a ?_;simp only[go_sem];refine cX (a.set aj _) ?_ (fh _);exact(gR _).symm
theorem arW(n:Int)(h: -9223372036854775808≤n∧n<9223372036854775808):bA 238 [ai n] (b6 n):=by
 refine e3 (.cons (.int _ _) .nil) (bg alg ?_);by_cases b:n<0
 ·obtain⟨m,rfl⟩:∃m:Nat,n= -(m:Int):=⟨n.natAbs,aa⟩;have a:aG .u64 (-(m:Int))=((18446744073709551616-m:Nat):Int):=by rw[gE];omega
  have c:aG .u64 (-((18446744073709551616-m:Nat):Int))=(m:Int):=by rw[gE];omega
  simp(disch:=omega)only[go_sem,FM,FN,dt,a,c];refine use (Bu m aa) ?_;simp only[go_sem];refine g8 ?_ (fh _);unfold b6 c5;rw[bw b,lO,cV]
 ·obtain⟨m,rfl⟩:∃m:Nat,n=(m:Int):=⟨n.natAbs,aa⟩;have a:aG .u64 ((m:Nat):Int)=(m:Int):=cj _ aa;simp(disch:=omega)only[go_sem,FM,FN,Ry,df,a];refine use (Bu m aa) ?_;simp only[go_sem];refine g8 ?_ (fh _);rw[gR]
def q2(z:Int):V:=if-9223372036854775808≤z∧z<9223372036854775808 then .aK [ai z,cC]else .aK [ai 0,aq]
theorem ahz(z:Int):bZ (q2 z):=by
 unfold q2;split
 ·exact .aK (.cons (.int _ _) (.cons (.bool _) .nil))
 ·exact .aK (.cons (.int _ _) (.cons (.bool _) .nil))
theorem arV(z:Int)(s:(ax z.natAbs).length<100000):bA 166 [b6 z] (q2 z):=by
 refine cT (.cons (fh _) .nil) (ahz _) (bg akJ ?_);have p:=iE z.natAbs;by_cases j:z=0
 ·have e:(ax z.natAbs).length=0:=aa;simp(disch:=omega)only[go_sem,tB,tC,b6,c5,dt];rw[j];rfl
 have d:(ax z.natAbs).length≠0:=aa;have a:dY none 1 [bz (ax z.natAbs),ai 0]=some (.val (.dm (aT (ax z.natAbs)) 0)):=gw ⟨aj,aa⟩;have l:=mN z.natAbs;by_cases h:(ax z.natAbs).length=1
 ·have b:(ax z.natAbs).getD 0 0=z.natAbs:=by
   obtain⟨r,f,g⟩:=lM z.natAbs aa;rw[h]at f g;simp only[lV,mF,dQ]at f g;omega
  rw[h,Nat.pow_one]at l;by_cases q:z<0
  ·by_cases k:z.natAbs≤9223372036854775808
   ·have m:aG .u64 (-((z.natAbs:Nat):Int))=((18446744073709551616-z.natAbs:Nat):Int):=by rw[gE];omega
    have c:aG .i64 ((18446744073709551616-z.natAbs:Nat):Int)=z:=by
     rw[ot];unfold qC;simp[oy,oz];omega
    simp(disch:=omega)only[go_sem,tB,tC,vB,vA,b6,c5,df,dt,a,dB,b,m,c];unfold q2;rw[ay aa]
   ·simp(disch:=omega)only[go_sem,tB,tC,vB,vA,EI,b6,c5,df,dt,a,dB,b];unfold q2;rw[au aa]
  ·by_cases k:z.natAbs≤9223372036854775807
   ·have c:aG .i64 ((z.natAbs:Nat):Int)=z:=by rw[aQ _ aa];omega
    simp(disch:=omega)only[go_sem,tB,tC,vB,vA,b6,c5,df,a,dB,b,c];unfold q2;rw[ay aa]
   ·simp(disch:=omega)only[go_sem,tB,tC,vB,vA,EI,b6,c5,df,dt,a,dB,b];unfold q2;rw[au aa]
 ·have o:18446744073709551616≤z.natAbs:=by
   have i:=W.bM.pos (Bj z.natAbs) (fun e=>by rw[e]at d;exact d rfl);rw[fT]at i;refine cI ?_ i;have:=fN (n:=18446744073709551616) aj (aa:1≤(ax z.natAbs).length-1);rw[Nat.pow_one]at this;exact this
  simp(disch:=omega)only[go_sem,tB,tC,vB,vA,b6,c5,df,dt,a,dB];unfold q2;rw[au aa]
end Go.Proofs.YtddhncjmaahodaaGreatDoor
namespace Go.aV
def dp:Nat→Nat→List UInt8
 |0,_=>[]
 |k+1,m=>gG (48+m/10^k%10)::dp k m
theorem Ix:∀k m,(dp k m).length=k
 |0,_=>rfl
 |k+1,m=>by rw[dp,di,Ix k m]
variable{a:Nat}
theorem ofNat_toNat(h:a<10):(gG (48+a)).toNat=48+a:=by
 rw[UInt8.toNat_ofNat'];exact jr aa
theorem Iy:∀k m,dp (k+1) m=dp k (m/10)++[gG (48+m%10)]
 |0,m=>by simp[dp]
 |k+1,m=>by
  rw[dp,Iy k m,dp,nL,c3,b3 10];rfl
theorem YW(a:Nat)(b:a≠0):∀k r,r<10^k→ds (a*10^k+r)=ds a++dp k r
 |0,r,h=>by
  have:r=0:=by simpa using h
  subst this;simp[dp]
 |k+1,r,h=>by
  have e:a*10^(k+1)+r=10*(a*10^k+r/10)+r%10:=by
   rw[c3,b3 (10^k),k5];omega
  have c:0<10^k:=e8 aj;have d:0<a*10^k:=Nat.mul_pos (jP b) c;rw[e,Bg _ _ (eK _ aj) (.inl aa),YW a b k (r/10) (by rw[c3]at h;omega),Iy,eG]
theorem Iw:∀k m,10^k≤m→m<10^(k+1)→dp (k+1) m=ds m
 |0,m,a,b=>by
  rw[nW aa,(aa:m/10=0),lf];simp[dp]
 |k+1,m,a,b=>by
  rw[Iy,nW (by have:0<10^(k+1):=e8 aj;omega),Iw k (m/10) (by rw[c3]at a;omega) (by rw[c3]at b;omega)]
variable{g:Nat}
theorem vK(d:0<a)(h1:a=1∨10^(a-1)≤g)(c:g<10^a):dp a g=dec g:=by
 obtain⟨a,rfl⟩:∃j,a=j+1:=⟨a-1,aa⟩;unfold dec;by_cases b:g=0
 ·subst b;rw[ay rfl];rcases h1 with h1|h1
  ·have:a=0:=aa;subst this;simp[dp]
  ·have:0<10^(a+1-1):=e8 aj;omega
 ·rw[au b];rcases h1 with h1|h1
  ·have:a=0:=aa;subst this;exact Iw 0 g (by simp;omega) c
  ·exact Iw a g h1 c
theorem agM(k m q:Nat)(a:q=m/10^k):dp (k+1) m=gG (48+q%10)::dp k m:=by rw[dp,a]
theorem tQ(k m x:Nat)(a:x=m/10^k%100):dp (k+2) m=gG (48+x/10)::gG (48+x%10)::dp k m:=by
 have b:m/10^(k+1)%10=x/10:=by
  rw[a,c3,←nL];omega
 have c:m/10^k%10=x%10:=by rw[a];omega
 rw[dp,dp,b,c]
end Go.aV
namespace Go.Proofs.YtddhncjmaahodaaGreatDoor
open Go.aE Go.aV
theorem acH:∀x:Fin 100,(jB.getD (2*x.val) 0).toNat=48+x.val/10∧(jB.getD (2*x.val+1) 0).toNat=48+x.val%10:=aj
variable{i:List UInt8}{a:Nat}{p:IntKind}
theorem aab(h:a<i.length):jS [.str i,.int p (a:Int)]=some (.val (.int .u8 (((i.getD a 0).toNat:Nat):Int))):=
 nt aa (by rw[bN,c_,cH h];rfl)
theorem ug(h:a<100):jS [.str jB,.int .u32 ((2*a+1:Nat):Int)]=some (.val (.int .u8 ((48+a%10:Nat):Int))):=by
 rw[aab (by show 2*a+1<200;omega),(acH ⟨a,h⟩).2]
theorem uh(h:a<100):jS [.str jB,.int .u32 ((2*a:Nat):Int)]=some (.val (.int .u8 ((48+a/10:Nat):Int))):=by
 rw[aab (by show 2*a<200;omega),(acH ⟨a,h⟩).1]
def jL(b X a:List UInt8)(i:Nat)(D:List UInt8):List V:=cn (b++X.take i++D++a)
theorem aeF(L:List UInt8)(j:Nat)(c:UInt8):(cn L).set j (.int .u8 (c.toNat:Int))=cn (L.set j c):=by simp[cn,List.map_set]
theorem me{pre X post D:List UInt8}{i o d:Nat}(f:pre.length=o)(c:i<X.length)(b:d<10):dx [V.int .u8 ((48+d:Nat):Int)] (jL pre X post (i+1) D) (o+i)=some (jL pre X post i (gG (48+d)::D)):=by
 have g:X.take (i+1)=X.take i++[X[i]]:=jZ c;have a:(pre++X.take i).length=o+i:=by simp[f];omega
 have e:pre++X.take (i+1)++D++post=pre++X.take i++X[i]::(D++post):=by rw[g];simp only[eG,fm,eM]
 unfold jL;rw[e,gk (by rw[iD,bt,a];simp),show V.int .u8 ((48+d:Nat):Int)=V.int .u8 (((gG (48+d)).toNat:Nat):Int)from by rw[ofNat_toNat b],aeF,←a,List.set_append_right _ _ (aR _),lV];simp only[List.set_cons_zero,eG,fm]
theorem l9{b o n m:Nat}{c:Cap}{k:IntKind}{x:Int}(a:x=(m:Int))(d:m<n):dY none 1 [.slice b o n c,.int k x]=some (.val (.ptr b (o+m))):=by
 subst a;rw[cR aa,bN,dQ]
set_option maxHeartbeats 1000000 in
theorem aoW(a X d D:List UInt8)(n o b i g k l m:Nat)(c:Cap)(f:a.length=o)(hX:X.length=n)(hi:i+8≤n)(hn:n≤20)(u:g<100)(v:k<100)(w:l<100)(y:m<100)(F:Fr)(H:ag)(Q:Go.aE.X→Fr→ag→Prop)(s:rd 0 F=.slice b o n c)(t:rd 4 F=ai ((i+8:Nat):Int))(G:rd 9 F=.int .u32 ((2*g:Nat):Int))(E:rd 8 F=.int .u32 ((2*k:Nat):Int))(C:rd 11 F=.int .u32 ((2*l:Nat):Int))(B:rd 10 F=.int .u32 ((2*m:Nat):Int))(A:H.get b=.cells (jL a X d (i+8) D) 0)
 (I:∀r z,rd 0 r=rd 0 F→rd 1 r=rd 1 F→rd 4 r=ai (i:Int)→d_ H z b (jL a X d i (gG (48+m/10)::gG (48+m%10)::gG (48+l/10)::gG (48+l%10)::gG (48+k/10)::gG (48+k%10)::gG (48+g/10)::gG (48+g%10)::D))→Q .norm r z):bT Gc Q F H:=by
 have wp:∀x:Nat,x<100→aG .u32 (((2*x:Nat):Int)+1)=((2*x+1:Nat):Int):=fun x hx=>by rw[gd _ aa];omega
 have w0:=wp g u;have w1:=wp k v;have w2:=wp l w;have w3:=wp m y;have x0:=ug u;have a5:=ug v;have a6:=ug w;have a7:=ug y;have y0:=uh u;have y1:=uh v;have a':=uh w;have ba:=uh y;have p:∀x,x<100→x/10<10:=fun x h=>aa
 have q:∀x,x%10<10:=fun x=>eK _ aj
 have S:=fun D=>me (pre:=a) (X:=X) (post:=d) (D:=D) (i:=i+7) f aa (q g)
 have T:=fun D=>me (pre:=a) (X:=X) (post:=d) (D:=D) (i:=i+6) f aa (p g u)
 have U:=fun D=>me (pre:=a) (X:=X) (post:=d) (D:=D) (i:=i+5) f aa (q k)
 have V:=fun D=>me (pre:=a) (X:=X) (post:=d) (D:=D) (i:=i+4) f aa (p k v)
 have W:=fun D=>me (pre:=a) (X:=X) (post:=d) (D:=D) (i:=i+3) f aa (q l)
 have Y:=fun D=>me (pre:=a) (X:=X) (post:=d) (D:=D) (i:=i+2) f aa (p l w)
 have Z:=fun D=>me (pre:=a) (X:=X) (post:=d) (D:=D) (i:=i+1) f aa (q m)
 have ab:=fun D=>me (pre:=a) (X:=X) (post:=d) (D:=D) (i:=i) f aa (p m y)
 have e:∀j:Int,0≤j∧j≤8→aG .i64 (((i+8:Nat):Int)-j)=((i+8:Nat):Int)-j:=fun j hj=>aQ _ aa
 have v1:=e 1 aj;have v2:=e 2 aj;have v3:=e 3 aj;have v4:=e 4 aj;have am:=e 5 aj;have v6:=e 6 aj;have ar:=e 7 aj;have aw:=e 8 aj;have J:=l9 (b:=b) (o:=o) (n:=n) (c:=c) (k:=.i64) (x:=((i+8:Nat):Int)-1) (m:=i+7) aa aa;have K:=l9 (b:=b) (o:=o) (n:=n) (c:=c) (k:=.i64) (x:=((i+8:Nat):Int)-2) (m:=i+6) aa aa;have L:=l9 (b:=b) (o:=o) (n:=n) (c:=c) (k:=.i64) (x:=((i+8:Nat):Int)-3) (m:=i+5) aa aa;have M:=l9 (b:=b) (o:=o) (n:=n) (c:=c) (k:=.i64) (x:=((i+8:Nat):Int)-4) (m:=i+4) aa aa;have N:=l9 (b:=b) (o:=o) (n:=n) (c:=c) (k:=.i64) (x:=((i+8:Nat):Int)-5) (m:=i+3) aa aa;have O:=l9 (b:=b) (o:=o) (n:=n) (c:=c) (k:=.i64) (x:=((i+8:Nat):Int)-6) (m:=i+2) aa aa;have P:=l9 (b:=b) (o:=o) (n:=n) (c:=c) (k:=.i64) (x:=((i+8:Nat):Int)-7) (m:=i+1) aa aa;have R:=l9 (b:=b) (o:=o) (n:=n) (c:=c) (k:=.i64) (x:=((i+8:Nat):Int)-8) (m:=i) aa aa;clear e p q wp;simp only[go_sem,Gc,s,t,G,v1,v2,w0,x0,y0,J,K,A,S,T];simp only[go_sem,S8,s,t,E,v3,v4,w1,a5,y1,L,M,U,V];simp only[go_sem,S7,s,t,C,am,v6,w2,a6,a',N,O,W,Y];simp only[go_sem,S4,S3,s,t,B,ar,aw,w3,a7,ba,P,R,Z,ab];refine I _ _ ?_ ?_ ?_ ?_
 iterate 2 simp only[go_sem]
 ·simp only[go_sem];congr 1;omega
 ·exact((((((((d_.refl A).set _).set _).set _).set _).set _).set _).set _).set _
set_option maxHeartbeats 1000000 in
theorem ahX(q X z:List UInt8)(n a o b:Nat)(c:Cap)(ho:q.length=o)(hX:X.length=n)(hn:n≤20)(hu:a<18446744073709551616)(F:Fr)(H:ag)(R:Go.aE.X→Fr→ag→Prop)(Y:rd 0 F=.slice b o n c)(Z:rd 1 F=az (a:Int))(ab:rd 4 F=ai (n:Int))(ap:H.get b=.cells (jL q X z n []) 0)
 (hR:∀e A i k,i+k=n→i<8→rd 0 e=.slice b o n c→rd 1 e=az ((a/10^k:Nat):Int)→rd 4 e=ai (i:Int)→d_ H A b (jL q X z i (dp k a))→R (.exit 0) e A):bT (.loop Ga) R F H:=by
 refine bW (fun m t J=>∃k,m+k=n∧rd 0 t=.slice b o n c∧rd 1 t=az ((a/10^k:Nat):Int)∧rd 4 t=ai (m:Int)∧d_ H J b (jL q X z m (dp k a))) n ⟨0,rfl,Y,by rw[mF,nM];exact Z,ab,d_.refl ap⟩ ?_;rintro m t J ⟨k,hk,D,Q,y,E⟩;unfold Ga;by_cases h8:8≤m
 ·obtain⟨i,rfl⟩:∃i,m=i+8:=⟨m-8,aa⟩;have hg:=E.at;have co:a/10^k<18446744073709551616:=eH (g7 _ _) hu;have B:dp (k+2) a=_:=tQ k a _ rfl;have v:dp (k+2+2) a=_:=tQ (k+2) a _ rfl;have w:dp (k+2+2+2) a=_:=tQ (k+2+2) a _ rfl;have C:dp (k+2+2+2+2) a=_:=tQ (k+2+2+2) a _ rfl;have G:a/10^(k+2)=a/10^k/100:=by rw[fX,nL]
  have I:a/10^(k+2+2)=a/10^k/10000:=by rw[fX,←nL,G];omega
  have e9:a/10^(k+2+2+2)=a/10^k/1000000:=by rw[fX,←nL,I];omega
  have be:a/10^(k+8)=a/10^k/100000000:=by rw[fX,←nL]
  rw[G]at v;rw[I]at w;rw[e9]at C;generalize a/10^k=u at*
  obtain⟨s,W⟩:∃s,s=u%100000000:=⟨_,rfl⟩;obtain⟨f,O⟩:∃x,x=s/10000:=⟨_,rfl⟩;obtain⟨g,P⟩:∃x,x=s%10000:=⟨_,rfl⟩;obtain⟨h,K⟩:∃x,x=g%100:=⟨_,rfl⟩;obtain⟨j,L⟩:∃x,x=g/100:=⟨_,rfl⟩;obtain⟨l,M⟩:∃x,x=f%100:=⟨_,rfl⟩;obtain⟨p,N⟩:∃x,x=f/100:=⟨_,rfl⟩;rw[(aa:u%100=h)]at B;rw[(aa:u/100%100=j),B]at v;rw[(aa:u/10000%100=l),v]at w;rw[(aa:u/1000000%100=p),w]at C;clear B v w G I e9;have q1:lP (u:Int) 100000000=(s:Int):=by rw[W];rfl
  have bj:kq (u:Int) 100000000=((u/100000000:Nat):Int):=rfl;have bo:kq (s:Int) 10000=(f:Int):=by rw[O];rfl
  have bs:lP (s:Int) 10000=(g:Int):=by rw[P];rfl
  have bv:kq (g:Int) 100=(j:Int):=by rw[L];rfl
  have b0:lP (g:Int) 100=(h:Int):=by rw[K];rfl
  have b1:kq (f:Int) 100=(p:Int):=by rw[N];rfl
  have b2:lP (f:Int) 100=(l:Int):=by rw[M];rfl
  have a5:s<100000000:=aa;have S:h<100:=aa;have T:j<100:=aa;have U:l<100:=aa;have V:p<100:=aa;have ch:f<10000:=aa;have ci:g<10000:=aa;have ca:¬(100:Int)=0:=aj;have cb:¬(10000:Int)=0:=aj;have cd:¬(100000000:Int)=0:=aj;have ws:aG .u64 ((s:Nat):Int)=(s:Int):=cj _ aa;have b':aG .u64 ((u/100000000:Nat):Int)=((u/100000000:Nat):Int):=cj _ aa;clear W O P K L M N;have d:∀x:Nat,x<100000000→aG .u32 ((x:Nat):Int)=(x:Int):=fun x hx=>gd _ aa
  have r:∀x:Nat,x<100→aG .u32 ((x:Int)*2)=((2*x:Nat):Int):=fun x hx=>by rw[gd _ aa];omega
  have k1:=d s a5;have k2:=d f aa;have cu:=d g aa;have cp:=d h aa;have a':=d j aa;have cs:=d l aa;have fD:=d p aa;have ba:=r h S;have m1:=r j T;have m2:=r l U;have bd:=r p V;clear d r;have cf:¬((i+8:Nat):Int)<8:=aa;simp(disch:=assumption)only[go_sem,Tc,Tb,Ta,S_,S9,Q,y,df,iC,k_,q1,bj,bo,bs,bv,b0,b1,b2,b',k1,k2,a',fD,ba,m1,m2,bd];refine aoW q X z (dp k a) n o b i h j l p c ho hX aa hn S T U V _ _ _ ?_ ?_ ?_ ?_ ?_ ?_ hg ?_
  iterate 6 simp only[go_sem,D,y]
  intro e A g0 g1 g4 aw;have h0:rd 0 e=.slice b o n c:=g0.trans (by simp only[go_sem,D]);have h1:rd 1 e=az ((u/100000000:Nat):Int):=g1.trans (by simp only[go_sem]);simp only[go_sem];refine⟨i,aa,k+8,aa,h0,?_,g4,?_⟩
  ·rw[be];exact h1
  ·rw[show k+8=k+2+2+2+2 from rfl,C];exact E.trans aw
 ·simp(disch:=omega)only[go_sem,y,dt];refine hR _ _ m k hk aa ?_ ?_ ?_ E
  iterate 3 simp only[go_sem,D,Q,y]
section
variable (pre X post:List UInt8) (n bL o b:Nat) (c:Cap) (ho:pre.length=o) (hX:X.length=n) (hn:n≤20)
include ho hX hn
theorem Zy(i k u:Nat)(B:i+k=n)(A:i<2)(t:u=bL/10^k)(v:u<10^i)(F:Fr)(H:ag)(Q:Go.aE.X→Fr→ag→Prop)(p:rd 0 F=.slice b o n c)(f:rd 4 F=ai (i:Int))(q:rd 12 F=.int .u32 (u:Int))(a:H.get b=.cells (jL pre X post i (dp k bL)) 0)
 (g:∀l e,d_ H e b (jL pre X post 0 (dp n bL))→Q .norm l e):bT Ao Q F H:=by
 by_cases r:i=0
 ·subst r;have d:k=n:=aa;subst d;simp(disch:=omega)only[go_sem,Ao,Gb,f,df];exact g _ _ (d_.refl a)
 ·have s:i=1:=aa;subst s;have d:n=k+1:=aa;have j:u<10:=by simpa using v
  have h:=agM k bL u t;rw[jr j]at h;have y:aG .u32 ((48:Int)+(u:Int))=((48+u:Nat):Int):=by rw[gd _ aa];omega
  have z:aG .u8 ((48+u:Nat):Int)=((48+u:Nat):Int):=IL _ aa;have w:=l9 (b:=b) (o:=o) (n:=n) (c:=c) (k:=.i64) (x:=0) (m:=0) rfl aa;have x:dx [V.int .u8 ((48+u:Nat):Int)] (jL pre X post 1 (dp k bL)) o=some (jL pre X post 0 (gG (48+u)::dp k bL)):=me (i:=0) (o:=o) ho aa j;have m:((1:Nat):Int)=1:=rfl;simp(disch:=omega)only[go_sem,Ao,Gb,p,f,q,m,dt,y,z,w,a];rw[x];simp only[go_sem];refine g _ _ ?_;rw[d,h];exact(d_.refl a).set _
theorem Zz(i k u:Nat)(w:i+k=n)(S:i<4)(l:u=bL/10^k)(m:u<10^i)(F:Fr)(H:ag)(Q:Go.aE.X→Fr→ag→Prop)(f:rd 0 F=.slice b o n c)(g:rd 4 F=ai (i:Int))(p:rd 12 F=.int .u32 (u:Int))(h:H.get b=.cells (jL pre X post i (dp k bL)) 0)
 (r:∀e d,d_ H d b (jL pre X post 0 (dp n bL))→Q .norm e d):bT Ap Q F H:=by
 have T:u<10000:=ei m (cI (fN aj (aa:i≤4)) aj);by_cases P:2≤i
 ·obtain⟨j,rfl⟩:∃j,i=j+2:=⟨i-2,aa⟩;obtain⟨a,q⟩:∃x,x=u%100:=⟨_,rfl⟩;have s:a<100:=aa;have v:dp (k+2) bL=_:=tQ k bL a (by rw[q,l]);have G:lP (u:Int) 100=(a:Int):=by rw[q];rfl
  have I:kq (u:Int) 100=((u/100:Nat):Int):=rfl;have O:¬(100:Int)=0:=aj;have U:aG .u32 ((a:Nat):Int)=(a:Int):=gd _ aa;have B:aG .u32 ((u/100:Nat):Int)=((u/100:Nat):Int):=gd _ aa;have E:aG .u32 ((a:Int)*2)=((2*a:Nat):Int):=by rw[gd _ aa];omega
  have L:aG .u32 (((2*a:Nat):Int)+1)=((2*a+1:Nat):Int):=by rw[gd _ aa];omega
  have M:=ug s;have N:=uh s;have C:=me (pre:=pre) (X:=X) (post:=post) (D:=dp k bL) (i:=j+1) (o:=o) (d:=a%10) ho aa (eK _ aj);have D:=me (pre:=pre) (X:=X) (post:=post) (D:=gG (48+a%10)::dp k bL) (i:=j) (o:=o) (d:=a/10) ho aa aa;have J:aG .i64 (((j+2:Nat):Int)-1)=((j+2:Nat):Int)-1:=aQ _ aa;have K:aG .i64 (((j+2:Nat):Int)-2)=(j:Int):=by rw[aQ _ aa];omega
  have z:=l9 (b:=b) (o:=o) (n:=n) (c:=c) (k:=.i64) (x:=((j+2:Nat):Int)-1) (m:=j+1) aa aa;have A:=l9 (b:=b) (o:=o) (n:=n) (c:=c) (k:=.i64) (x:=(j:Int)) (m:=j) rfl aa;have R:¬((j+2:Nat):Int)<2:=aa;simp(disch:=assumption)only[go_sem,Ap,f,g,p,df,iC,k_,G,I,B,E,L,M,N,J,K,z,A,h,C,D];have y:u/100<10^j:=by
   rw[pM aj,show(100:Nat)=10^2 from rfl,←fX];exact m
  refine Zy pre X post n bL o b c ho hX hn j (k+2) (u/100) aa aa (by rw[l,fX,nL]) y _ _ _ ?_ ?_ ?_ ?_ ?_
  iterate 3 simp only[go_sem,f]
  ·rw[v,ag.a_,ay rfl]
  ·intro e d t;exact r e d (((d_.refl h).set _).set _|>.trans t)
 ·simp(disch:=omega)only[go_sem,Ap,g,dt];refine Zy pre X post n bL o b c ho hX hn i k u w aa l m _ _ _ ?_ ?_ ?_ h r
  iterate 3 simp only[go_sem,f,g,p]
set_option maxHeartbeats 1000000 in
theorem ahW(i k u:Nat)(E:i+k=n)(hi:i<8)(g:u=bL/10^k)(q:u<10^i)(F:Fr)(H:ag)(Q:Go.aE.X→Fr→ag→Prop)(l:rd 0 F=.slice b o n c)(m:rd 4 F=ai (i:Int))(s:rd 12 F=.int .u32 (u:Int))(p:H.get b=.cells (jL pre X post i (dp k bL)) 0)
 (t:∀h f,d_ H f b (jL pre X post 0 (dp n bL))→Q .norm h f):bT Aq Q F H:=by
 have a7:u<100000000:=ei q (cI (fN aj (aa:i≤8)) aj);by_cases h2:4≤i
 ·obtain⟨j,rfl⟩:∃j,i=j+4:=⟨i-4,aa⟩;obtain⟨e,B⟩:∃x,x=u%10000:=⟨_,rfl⟩;obtain⟨a,z⟩:∃x,x=e%100:=⟨_,rfl⟩;obtain⟨d,A⟩:∃x,x=e/100:=⟨_,rfl⟩;have v:a<100:=aa;have w:d<100:=aa;have U:bL/10^(k+2)=u/100:=by rw[g,fX,nL]
  have V:bL/10^(k+4)=u/10000:=by rw[g,fX,nL]
  have y:dp (k+2) bL=_:=tQ k bL a (by rw[←g];omega);have r:dp (k+2+2) bL=_:=tQ (k+2) bL d (by rw[U];omega);rw[y]at r;have W:lP (u:Int) 10000=(e:Int):=by rw[B];rfl
  have Y:kq (u:Int) 10000=((u/10000:Nat):Int):=rfl;have Z:kq (e:Int) 100=(d:Int):=by rw[A];rfl
  have ab:lP (e:Int) 100=(a:Int):=by rw[z];rfl
  have a2:¬(100:Int)=0:=aj;have a3:¬(10000:Int)=0:=aj;have k0:aG .u32 ((e:Nat):Int)=(e:Int):=gd _ aa;have k1:aG .u32 ((a:Nat):Int)=(a:Int):=gd _ aa;have M:aG .u32 ((u/10000:Nat):Int)=((u/10000:Nat):Int):=gd _ aa;have cu:aG .u32 ((d:Nat):Int)=(d:Int):=gd _ aa;have S:aG .u32 ((a:Int)*2)=((2*a:Nat):Int):=by rw[gd _ aa];omega
  have T:aG .u32 ((d:Int)*2)=((2*d:Nat):Int):=by rw[gd _ aa];omega
  have w0:aG .u32 (((2*a:Nat):Int)+1)=((2*a+1:Nat):Int):=by rw[gd _ aa];omega
  have w1:aG .u32 (((2*d:Nat):Int)+1)=((2*d+1:Nat):Int):=by rw[gd _ aa];omega
  have x0:=ug v;have y0:=uh v;have aw:=ug w;have y1:=uh w;have N:=fun D=>me (pre:=pre) (X:=X) (post:=post) (D:=D) (i:=j+3) (o:=o) (d:=a%10) ho aa (eK _ aj)
  have O:=fun D=>me (pre:=pre) (X:=X) (post:=post) (D:=D) (i:=j+2) (o:=o) (d:=a/10) ho aa aa
  have P:=fun D=>me (pre:=pre) (X:=X) (post:=post) (D:=D) (i:=j+1) (o:=o) (d:=d%10) ho aa (eK _ aj)
  have R:=fun D=>me (pre:=pre) (X:=X) (post:=post) (D:=D) (i:=j) (o:=o) (d:=d/10) ho aa aa
  have v1:aG .i64 (((j+4:Nat):Int)-1)=((j+4:Nat):Int)-1:=aQ _ aa;have v2:aG .i64 (((j+4:Nat):Int)-2)=((j+4:Nat):Int)-2:=aQ _ aa;have v3:aG .i64 (((j+4:Nat):Int)-3)=((j+4:Nat):Int)-3:=aQ _ aa;have v4:aG .i64 (((j+4:Nat):Int)-4)=(j:Int):=by rw[aQ _ aa];omega
  have I:=l9 (b:=b) (o:=o) (n:=n) (c:=c) (k:=.i64) (x:=((j+4:Nat):Int)-1) (m:=j+3) aa aa;have J:=l9 (b:=b) (o:=o) (n:=n) (c:=c) (k:=.i64) (x:=((j+4:Nat):Int)-2) (m:=j+2) aa aa;have K:=l9 (b:=b) (o:=o) (n:=n) (c:=c) (k:=.i64) (x:=((j+4:Nat):Int)-3) (m:=j+1) aa aa;have L:=l9 (b:=b) (o:=o) (n:=n) (c:=c) (k:=.i64) (x:=(j:Int)) (m:=j) rfl aa;have a5:¬((j+4:Nat):Int)<4:=aa;simp(disch:=assumption)only[go_sem,Aq,l,m,s,df,iC,k_,W,Y,Z,ab,M,cu,S,T,w0,w1,x0,y0,aw,y1,v1,v2,v3,v4,I,J,K,L,p,N,O,P,R];have G:u/10000<10^j:=by
   rw[pM aj,show(10000:Nat)=10^4 from rfl,←fX];exact q
  refine Zz pre X post n bL o b c ho hX hn j (k+4) (u/10000) aa aa V.symm G _ _ _ ?_ ?_ ?_ ?_ ?_
  iterate 3 simp only[go_sem,l]
  ·rw[show k+4=k+2+2 from rfl,r,ag.a_,ay rfl]
  ·intro h f C;exact t h f (((((d_.refl p).set _).set _).set _).set _|>.trans C)
 ·simp(disch:=omega)only[go_sem,Aq,m,dt];refine Zz pre X post n bL o b c ho hX hn i k u E aa g q _ _ _ ?_ ?_ ?_ p t
  iterate 3 simp only[go_sem,l,m,s]
theorem ZA(t:bL<18446744073709551616)(s:bL<10^n)(H:ag)(p:H.get b=.cells (cn (pre++X++post)) 0):dN 293 [.slice b o n c,az (bL:Int)] H fun _ g=>d_ H g b (cn (pre++dp n bL++post)):=by
 have q:H.get b=.cells (jL pre X post n []) 0:=by
  rw[p];unfold jL;rw[cq aa,fA]
 refine bg alC ?_;simp(disch:=omega)only[go_sem,S2,S6];refine ahX pre X post n bL o b c ho hX hn t _ H _ ?_ ?_ ?_ q ?_
 iterate 3 simp only[go_sem]
 intro w y i k e r h j l a;have f:bL/10^k<10^i:=by
  rw[pM (e8 aj),←fX,e];exact s
 have u:bL/10^k<100000000:=ei f (cI (fN aj (aa:i≤8)) aj);have v:aG .u32 ((bL/10^k:Nat):Int)=((bL/10^k:Nat):Int):=gd _ ⟨s7 _,qB.2 (oG u aj)⟩;rw[fu];simp only[go_sem,S5,j,v];refine ahW pre X post n bL o b c ho hX hn i k _ e r rfl f _ _ _ ?_ ?_ ?_ a.at ?_
 iterate 3 simp only[go_sem,h,l]
 intro x z d;simp only[go_sem];have m:jL pre X post 0 (dp n bL)=cn (pre++dp n bL++post):=by unfold jL;rw[nK,fA]
 rw[m]at d;exact a.trans d
end
theorem am6:∀L:Fin 65,2^L.val≤10^(L.val*78913/262144+1)∧(L.val*78913/262144=0∨10^(L.val*78913/262144-1)≤2^(L.val-1))∧L.val*78913/262144<20:=aj
theorem aoG:∀k:Fin 20,mj.getD k.val 0=10^k.val:=aj
theorem am5(L:Nat)(c:L≤64):bA 350 [ai (L:Int)] (ai ((L*78913/262144:Nat):Int)):=by
 refine cT (.cons (.int _ _) .nil) (.int _ _) (bg alQ ?_);have b:aG .i64 ((L:Int)*78913)=((L*78913:Nat):Int):=by rw[aQ _ aa];omega
 have a:ql ((L*78913:Nat):Int) (dO 18 (gq .i64))=((L*78913/262144:Nat):Int):=rfl;simp only[go_sem,UI,UJ,b,a]
theorem aer(x:Bool):bA 351 [.bool x] (ai (if x then 1 else 0)):=by
 refine cT (.cons (.bool _) .nil) (.int _ _) (bg alR ?_);cases x
 ·simp only[go_sem,GO,GP,UK];rfl
 ·simp only[go_sem,GO,GP]
variable{g:Nat}{z:Nat}
theorem anQ(m:g=eB a)(o:1≤a)(p:g≤64)(n:z=g*78913/262144):a<10^(z+if 10^z≤a then 1 else 0)∧(z+if 10^z≤a then 1 else 0)=(dec a).length∧z<20:=by
 obtain⟨j,k,d⟩:=am6 ⟨g,aa⟩;simp only[←n]at j k d;have f:=aaH a;have h:=aaG (n:=a) aa;rw[←m]at f h;by_cases c:10^z≤a
 ·rw[ay c];have b:a<10^(z+1):=ei f j;refine⟨b,?_,d⟩;rw[←vK (nh z) (.inr c) b,Ix]
 ·rw[au c,cO];have b:a<10^z:=rQ c;refine⟨b,?_,d⟩;have i:z≠0:=fun e=>by rw[e,mF]at b;omega
  have l:10^(z-1)≤a:=cI (k.resolve_left i) h;rw[←vK (jP i) (.inr l) b,Ix]
theorem abb(u:Nat)(l:1≤u)(i:u<18446744073709551616):ff 292 [az (u:Int)] (ai (((dec u).length:Nat):Int)):=by
 refine fK (.cons (.int _ _) .nil) (bg alB ?_);have a:eB u≤64:=BO i;obtain⟨L,c⟩:∃L,L=eB u:=⟨_,rfl⟩;have f:=aaF u i;rw[←c]at a f;obtain⟨k,d⟩:∃k,k=L*78913/262144:=⟨_,rfl⟩;have g:=am5 L a;rw[←d]at g;obtain⟨_,p,b⟩:=anQ c l a d;have h:=aoG ⟨k,b⟩;simp only at h;simp(disch:=omega)only[go_sem,SZ,S1];refine use f ?_;simp(disch:=omega)only[go_sem];refine use g ?_;have m:dY (some 20) 1 [.ptr 0 0,ai (k:Int)]=some (.val (.ptr 0 k)):=by
  rw[Z8 aa,bN,fB,dQ]
 have j:=gv.mj;have n:eu (uS mj) k=some (az ((10^k:Nat):Int)):=by
  rw[iW,uS,qE,cH (show k<mj.length from b),←h,c_,cH (show k<mj.length from b)];rfl
 have o:aG .i64 ((k:Int)+(if(!decide (((u:Nat):Int)<((10^k:Nat):Int)))=true then 1 else 0))=(((dec u).length:Nat):Int):=by
  rw[←p];by_cases e:10^k≤u
  ·rw[ay e,bp aa,ay aj,aQ _ aa];rfl
  ·rw[au e,bw aa,au aj,aQ _ aa];rfl
 simp(disch:=omega)only[go_sem,S0,m,j,n];refine use (aer _) ?_;simp only[go_sem,o];exact cX gv rfl (.int _ _)
theorem aqx:∀n:Fin 10,(Bc.drop n.val).take 1=dp 1 n.val:=aj
theorem aqy:∀n:Fin 100,(jB.drop (n.val*2)).take 2=dp 2 n.val:=aj
variable{r:Int}
theorem acP{a:IntKind}{h:Int}(b:0≤r∧r≤h∧h≤i.length):slice3 kg true true false [.str i,.int p r,.int a h]=some (.val (.str ((i.drop r.toNat).take (h.toNat-r.toNat)))):=by
 show uN i (some (.int p r)) (some (.int a h))=_;exact Kp (qQ (k8 p b.1) (k8 a aa) aa aa) aa aa
theorem acJ(n:Nat)(h:n<100):bA 291 [ai (n:Int)] (.str (dec n)):=by
 refine cT (.cons (.int _ _) .nil) (.str _) (bg alA ?_);by_cases b:n<10
 ·have a:slice3 kg true true false [.str Bc,ai (n:Int),ai ((n:Int)+1)]=some (.val (.str (dec n))):=by
   have c:(Bc.length:Int)=36:=rfl;rw[acP aa,bN,(aa:((n:Int)+1).toNat-n=1)];rw[aqx ⟨n,b⟩,vK aj (.inl rfl) (by simpa using b)]
  simp(disch:=omega)only[go_sem,F9,F_,dt,aQ,a]
 ·have a:slice3 kg true true false [.str jB,ai ((n:Int)*2),ai ((n:Int)*2+2)]=some (.val (.str (dec n))):=by
   have c:(jB.length:Int)=200:=rfl;rw[acP aa,(aa:((n:Int)*2+2).toNat-((n:Int)*2).toNat=2),(aa:((n:Int)*2).toNat=n*2)];rw[aqy ⟨n,h⟩,vK aj (.inr (by show 10^1≤n;omega)) (by show n<10^2;omega)]
  simp(disch:=omega)only[go_sem,F9,F_,SY,df,aQ,a]
theorem Cx:slice3 (lK a g) false true false [.ptr z 0,.int p r]=slice3 (jA g) false true false [.slice z 0 a (.known a),.int p r]:=rfl
theorem aqj{b:IntKind}{h:Int}:slice3 (lK a g) true true false [.ptr z 0,.int p r,.int b h]=slice3 (jA g) true true false [.slice z 0 a (.known a),.int p r,.int b h]:=rfl
inductive eI (H:ag):V→List UInt8→Nat→Nat→Bool→Prop
 |p9 {v:V}{l:List UInt8}{g m:Nat} (h:bu H 1 v (cn l) g) (hm:m≤1000000000):eI H v l g m false
 |bP {b n:Nat}{l rest:List UInt8} (hb:H.get b=.cells (cn (l++rest)) 0) (hn:l.length+rest.length=n) (h0:b<H.next) (h5:b≠0) (hm:n≤1000000000):eI H (.slice b 0 l.length (.known n)) l b n true
structure hN (k k':Nat) (H H':ag):Prop where
 key:k'=k∨k=0∧H.next<k'
 keep:∀y,y<H.next→(k=0∨y≠k)→H'.get y=H.get y
 next:H.next≤H'.next
theorem hN.refl(k:Nat)(H:ag):hN k k H H:=⟨.inl rfl,fun _ _ _=>rfl,aR _⟩
variable{c:ag}{J:ag}
theorem hN.trans{d:ag}(h:hN a g c J)(h':hN g z J d):hN a z c d:=by
 have m:=h.next
 refine⟨?_,fun y l i=>?_,cI h.next h'.next⟩
 ·rcases h.key with e|⟨e,j⟩
  ·rcases h'.key with f|⟨f,k⟩
   ·exact .inl aa
   ·exact .inr ⟨aa,aa⟩
  ·rcases h'.key with f|⟨f,k⟩
   ·exact .inr ⟨e,aa⟩
   ·omega
 ·rw[←h.keep y l i];refine h'.keep y aa ?_;rcases h.key with e|⟨e,j⟩
  ·rw[e];exact i
  ·exact .inr aa
theorem hN.after{H:ag}(h:hN a g c J)(b:∀y,y<H.next→c.get y=H.get y)(f:H.next≤c.next):hN a g H J:=by
 refine⟨?_,fun y i d=>(h.keep y aa d).trans (b y i),cI f h.next⟩
 rcases h.key with e|⟨e,j⟩
 ·exact .inl e
 ·exact .inr ⟨e,aa⟩
variable{m:Bool}
theorem eI.low{v:V}{key:Nat}(h:eI c v i key a m)(e:∀z,z<c.next→J.get z=c.get z)(f:c.next≤J.next):eI J v i key a m:=by
 cases h with
 |p9 h b=>exact .p9 (h.low e f) b
 |bP j k d g b=>exact .bP (by rw[e _ d];exact j) k (ei d f) g b
theorem eI.push{v:V}{key:Nat}(h:eI c v i key a m)(o:eg):eI (c.push o) v i key a m:=
 h.low (fun z b=>by rw[ag.bE,au aa]) (Nat.le_succ _)
theorem pX(l m:List UInt8):cn (l++m)=cn l++cn m:=by simp[cn]
theorem LA(l:List UInt8):de (cn l)=true:=pV.2 fun v h=>by
 simp only[cn,nc]at h;obtain⟨c,_,rfl⟩:=h;rfl
theorem ahU:ec c 1 i.length (.str i)=some (cn i):=by
 show bq (bK 1 1) (av (cF i i.length) fun t=>some (lmap (fun b=>V.int .u8 (.ofNat b.toNat)) t))=_;rw[eR,ay (aR _),cq (aR _)];show some (lmap (fun b=>V.int .u8 (.ofNat b.toNat)) i)=_;congr 1;induction i with
 |nil=>rfl
 |cons a i d=>exact congrArg (List.cons _) d
variable{o:Fr}{j:Option Nat}{f:Fr→ag→Prop}
theorem y6{v x:V}{s:List UInt8}{key:Nat}(h:eI c v i key a m)(t:j_ x=some s.length)(u:ec c 1 s.length x=some (cn s))(r:s.length≠0)(G:i.length+s.length≤a)(cA:c.next≠0)
 (z:∀k g A,eI g k (i++s) A a m→hN key A c g→f (put o j k) g):gT j f o (ga 1 1 [v,x] c):=by
 cases h with
 |p9 h l=>
  refine Y1 (bytes:=1) h t u r (by rw[iD,dQ]) aj (LA s) ⟨by rw[iD,iD];omega,aj⟩ cA ?_;intro k g C L M cu S;refine z k g C (.p9 (by rw[pX];exact L) l) ⟨?_,cu,aa⟩;rcases M with⟨e,q⟩|⟨_,e⟩
  ·exact .inr ⟨e,aa⟩
  ·exact .inl e
 |bP D F E w l=>
  rename_i p;obtain⟨d,b,rfl,H⟩:∃d b,p=d++b∧d.length=s.length:=⟨p.take s.length,p.drop s.length,(oC _ _).symm,gK aa⟩;have q:ga 1 1 [.slice key 0 i.length (.known a),x] c=some (.slice key 0 (i++s).length (.known a),c.set key (.cells (cn (i++s++b)) 0)):=by
   show av (j_ x) (fun n=>av (ec c 1 n x) fun N=>kL 1 1 (.slice key 0 i.length (.known a)) n N c)=_;rw[t];show av (ec c 1 s.length x) _=_;rw[u];show Bool.casesOn (motive:=fun _=>Option (V×ag)) (fy s.length) (bq (ju (i.length+s.length) 1) (Bool.casesOn (motive:=fun _=>Option (V×ag)) (b8 (i.length+s.length) a) (av (c.dw key 0 (i.length*1)) fun O=>l7 c 1 (i.length+s.length) (ez O (cn s))) (av (c.e5 key (0+i.length*1) (cn s)) fun c=>some (V.slice key 0 (i.length+s.length) (.known a),c)))) (some (.slice key 0 i.length (.known a),c))=_;have J:c.e5 key (0+i.length*1) (cn s)=some (c.set key (.cells (cn (i++s++b)) 0)):=by
    unfold ag.e5;rw[D];show bq (de (cn s)) (av (dx (cn s) (cn (i++(d++b))) (0+i.length*1)) fun B=>some (c.set key (.cells B 0)))=_;rw[LA];have I:dx (cn s) (cn (i++(d++b))) (0+i.length*1)=some (cn (i++s++b)):=by
     rw[nu,ay (by rw[iD,iD];simp;omega)];congr 1;rw[fB,dQ,iD];have P:(cn (i++(d++b))).take i.length=cn i:=by rw[pX,←iD i,oD]
     have Q:(cn (i++(d++b))).drop (i.length+s.length)=cn b:=by
      rw[←eG,pX,show i.length+s.length=(cn (i++d)).length by rw[iD,bt,H],List.drop_left]
     rw[P,Q,pX,pX]
    rw[I];rfl
   rw[su r,p0 ⟨aa,aa⟩,jf G,J,bt];rfl
  rw[q];refine z _ _ key (.bP (rest:=b) (by rw[ag.a_,ay rfl]) (by simp at F⊢;omega) E w l) ⟨.inl rfl,fun y R K=>?_,aR _⟩;rw[ag.a_,au (fun e=>(K.resolve_left w) e.symm)]
theorem dec_lt(u:Nat):u<10^(dec u).length:=by
 have:=nr (dec u) (nT u);rw[mM]at this;exact this
theorem r4(u:Nat):0<(dec u).length:=by
 have:=nU u;cases h:dec u with
 |nil=>exact absurd h this
 |cons a l=>simp
theorem YT(u:Nat):dp (dec u).length u=dec u:=by
 refine vK (r4 u) ?_ (dec_lt u);by_cases a:(dec u).length=1
 ·exact .inl a
 ·refine .inr (ja fun d=>?_);have f:=r4 u;have b:u≠0:=fun e=>by rw[e]at a;exact a rfl
  have c:dec u=ds u:=au b;have:=oO d;rw[←c]at this;omega
theorem Ir(h:a<18446744073709551616):(dec a).length≤20:=by
 unfold dec;split
 ·decide
 ·exact oO (k:=20) (oG h aj)
theorem K4:[V.int .u8 0,.int .u8 0,.int .u8 0,.int .u8 0,.int .u8 0,.int .u8 0,.int .u8 0,.int .u8 0,.int .u8 0,.int .u8 0,.int .u8 0,.int .u8 0,.int .u8 0,.int .u8 0,.int .u8 0,.int .u8 0,.int .u8 0,.int .u8 0,.int .u8 0,.int .u8 0,.int .u8 0,.int .u8 0,.int .u8 0,.int .u8 0]=cn (br 24 0):=rfl
theorem apD(h:a≤g):br g (0:UInt8)=[]++br a 0++br (g-a) 0:=by
 rw[eM,List.replicate_append_replicate,Nat.add_sub_cancel' h]
variable{h:Type}
theorem am1(l:List h):cP l=l.length:=by
 induction l with
 |nil=>rfl
 |cons a l b=>show Nat.succ (cP l)=_;rw[b];rfl
theorem sn(h:hN a g c J)(b:GT c)(d:5≤c.next)(e:a=0∨5≤a):GT J:=b.keep fun y f=>h.keep y aa aa
theorem Du(u:Nat)(e:u<18446744073709551616){v:V}{key:Nat}(H:ag)(hT:eI H v i key a m)(k:i.length+(dec u).length≤a)(r:GT H)(q:5≤H.next):dN 295 [v,az (u:Int),ai 10] H fun w h=>∃b,eI h w (i++dec u) b a m∧hN key b H h:=by
 refine nR Go.Proofs.YtddhncjmaahodaaGreatDoor.hT cA fJ aal.1 aal.2 rfl ?_;have A:=r4 u;by_cases o:u<100
 ·have x:aG .i64 ((u:Nat):Int)=(u:Int):=aQ _ aa;simp(disch:=omega)only[go_sem,Gd,Ge,decide_true,dt,x];refine use (acJ u o) ?_;simp only[go_sem];refine y6 hT (s:=dec u) (by show some (cP (dec u))=_;rw[am1]) ahU aa k aa ?_;intro t n b f g;simp only[go_sem];exact⟨b,f,g⟩
 ·have p:=Ir e;simp(disch:=omega)only[go_sem,Gd,Ge,decide_true,df];rw[K4];refine cy (abb u aa e) (r.push q _) ?_;have l:slice3 (lK 24 1) false true false [.ptr H.next 0,ai (((dec u).length:Nat):Int)]=some (.val (.slice H.next 0 (dec u).length (.known 24))):=by
   rw[Cx,sR aa,bN]
  simp only[go_sem,l];refine(ZA [] (br (dec u).length 0) (br (24-(dec u).length) 0) (dec u).length u 0 H.next (.known 24) rfl (vc ..) p e (dec_lt u) _ ?_).mono ?_
  ·rw[ag.bE,ay rfl,apD (aa:(dec u).length≤24)]
  rintro _ d c;rw[YT,eM]at c;have s:=c.at;have j:∀y,y<H.next→d.get y=H.get y:=fun y B=>by rw[c.get,au aa,ag.bE,au aa]
  have z:d.next=H.next+1:=c.next
  simp only[go_sem,l];refine y6 (hT.low j aa) (s:=dec u) rfl ?_ aa k aa ?_
  ·show d.dw H.next 0 ((dec u).length*1)=_
   rw[gj s,eY,dQ,pX,eR,ay (by rw[bt,iD];omega),xh (by rw[iD];exact aR _),cq (by rw[iD];exact aR _)]
  intro t n b f g;simp only[go_sem];exact⟨b,f,g.after j aa⟩
theorem LD(u:Nat)(h:u<18446744073709551616){v:V}{key:Nat}(H:ag)(hT:eI H v i key a m)(g:i.length+(dec u).length≤a)(f:GT H)(e:5≤H.next):dN 296 [v,az (u:Int),ai 10] H fun d c=>∃b,eI c d (i++dec u) b a m∧hN key b H c:=by
 refine nR Go.Proofs.YtddhncjmaahodaaGreatDoor.hT cA fJ aam.1 aam.2 rfl ?_;simp only[go_sem,Td,Te];refine(Du u h H hT g f e).mono ?_;rintro d c ⟨b,j,k⟩;simp only[go_sem];exact⟨b,j,k⟩
def zt(z:Int):List UInt8:=(if z<0 then [45]else [])++dec z.natAbs
theorem K5(h:r<0):zt r=45::dec r.natAbs:=by unfold zt;rw[ay h];rfl
theorem zg(h:¬r<0):zt r=dec r.natAbs:=by unfold zt;rw[au h];rfl
theorem w6{H:ag}{v:V}{key:Nat}(h:eI H v i key a m)(c:UInt8)(k:i.length+1≤a)(cA:H.next≠0)(l:r=(c.toNat:Int))
 (g:∀e b d,eI b e (i++[c]) d a m→hN key d H b→f (put o j e) b):gT j f o (ga 1 1 [v,.slice H.next 0 1 (.known 1)] (H.push (.cells [.int .u8 r] 0))):=by
 subst l;refine y6 (h.push _) (s:=[c]) rfl ?_ (Nat.succ_ne_zero _) k (by show H.next+1≠0;omega) ?_
 ·show(H.push (.cells [V.int .u8 (c.toNat:Int)] 0)).dw H.next 0 (1*1)=some (cn [c])
  rw[gj (cs:=cn [c]) (by rw[ag.bE,ay rfl];rfl),eY];rfl
 ·intro e b d n p;exact g e b d n (p.after (fun y q=>by rw[ag.bE,au aa]) (Nat.le_succ _))
theorem ad8(z:Int)(y: -9223372036854775808≤z∧z<9223372036854775808){v:V}{key:Nat}(H:ag)(hT:eI H v i key a m)(d:i.length+(zt z).length≤a)(o:GT H)(n:5≤H.next)(r:key=0∨5≤key):dN 230 [v,ai z,ai 10] H fun k c=>∃b,eI c k (i++zt z) b a m∧hN key b H c:=by
 refine nR Go.Proofs.YtddhncjmaahodaaGreatDoor.hT cA fJ aai.1 aai.2 rfl ?_;by_cases p:z<0
 ·obtain⟨u,rfl⟩:∃u:Nat,z= -(u:Int):=⟨z.natAbs,aa⟩;have l:aG .u64 (-(u:Int))=((18446744073709551616-u:Nat):Int):=by rw[gE];omega
  have t:aG .u64 (-((18446744073709551616-u:Nat):Int))=(u:Int):=by rw[gE];omega
  rw[K5 p,lO,cV]at d⊢;simp only[di]at d;simp(disch:=omega)only[go_sem,FD,FG,FF,dt,l];refine w6 hT 45 aa aa rfl ?_;intro A q b s f;simp(disch:=omega)only[go_sem,FE,t];have w:b=0∨5≤b:=by
   rcases f.key with h|⟨_,h⟩<;>omega
  have x:=f.next
  refine(Du u aa q s (by simp;omega) (sn f o n r) aa).mono ?_;rintro k c ⟨j,e,g⟩;simp only[go_sem];refine⟨j,?_,f.trans g⟩;rw[eG]at e;exact e
 ·obtain⟨u,rfl⟩:∃u:Nat,z=(u:Int):=⟨z.natAbs,aa⟩;have l:aG .u64 ((u:Nat):Int)=(u:Int):=cj _ aa;rw[zg p,cV]at d⊢;simp(disch:=omega)only[go_sem,FD,FG,FF,FE,df,l];refine(Du u aa H hT d o n).mono ?_;rintro k c ⟨j,e,g⟩;simp only[go_sem];exact⟨j,e,g⟩
theorem LB(z:Int)(j: -9223372036854775808≤z∧z<9223372036854775808){v:V}{key:Nat}(H:ag)(hT:eI H v i key a m)(h:i.length+(zt z).length≤a)(f:GT H)(e:5≤H.next)(g:key=0∨5≤key):dN 162 [v,ai z,ai 10] H fun d c=>∃b,eI c d (i++zt z) b a m∧hN key b H c:=by
 refine nR Go.Proofs.YtddhncjmaahodaaGreatDoor.hT cA fJ aad.1 aad.2 rfl ?_;simp only[go_sem,OV,OW];refine(ad8 z j H hT h f e g).mono ?_;rintro d c ⟨b,k,l⟩;simp only[go_sem];exact⟨b,k,l⟩
theorem apE(h:a≤20):br 24 (0:UInt8)=[0]++br a 0++br (23-a) 0:=by
 rw[show([0]:List UInt8)=br 1 0 from rfl,List.replicate_append_replicate,List.replicate_append_replicate,(aa:1+a+(23-a)=24)]
theorem KE{H:ag}{o n:Nat}{c:Cap}{pre s post:List UInt8}(h:H.get a=.cells (cn (pre++s++post)) 0)(f:pre.length=o)(e:s.length=n):rD [.slice a o n c] H=some (.str s):=by
 show av (H.dw a o n) (fun b=>av (bytesOf b) fun s=>some (V.str s))=_;have d:H.dw a o n=some (cn s):=by
  unfold ag.dw ag.cells?;rw[h];show cF (eA (cn (pre++s++post)) o) n=_;rw[jT,eG,pX,←f,←iD pre,List.drop_left,pX,eR,ay (by rw[bt,iD];omega),←e,←iD s,oD]
 rw[d];show av (bytesOf (cn s)) _=_;rw[DK];rfl
theorem ah0(z:Int)(F: -9223372036854775808≤z∧z<9223372036854775808):ff 229 [ai z,ai 10] (.str (zt z)):=by
 refine fK (.cons (.int _ _) (.cons (.int _ _) .nil)) (nR Go.Proofs.YtddhncjmaahodaaGreatDoor.hT cA fJ aah.1 aah.2 rfl ?_);obtain⟨u,E⟩:∃u,u=z.natAbs:=⟨_,rfl⟩;by_cases m:0≤z∧z<100
 ·obtain⟨B,m⟩:=m;have c:¬z<0:=aa;have b:z=(u:Int):=aa;subst b;simp(disch:=omega)only[go_sem,z1,z2,decide_true,dt,df];refine use (acJ u aa) ?_;simp only[go_sem];rw[zg c,cV];exact cX gv rfl (.str _)
 ·have w:1≤u:=aa;have k:u<18446744073709551616:=aa;have D:=r4 u;have n:=Ir k;have p:=abb u w k;have f:aG .i64 ((1:Int)+(((dec u).length:Nat):Int))=((1+(dec u).length:Nat):Int):=by rw[aQ _ aa];omega
  have j:slice3 (lK 24 1) true true false [.ptr 5 0,ai 1,ai ((1+(dec u).length:Nat):Int)]=some (.val (.slice 5 1 (dec u).length (.known 23))):=by
   rw[aqj,Cz aa];congr 3;omega
  have t:slice3 (lK 24 1) false true false [.ptr 5 0,ai ((1+(dec u).length:Nat):Int)]=some (.val (.slice 5 0 (1+(dec u).length) (.known 24))):=by
   rw[Cx,sR aa,bN]
  have e:GT (dG.push (.cells (cn (br 24 0)) 0)):=gv.push aj _;have r:(dG.push (.cells (cn (br 24 0)) 0)).get 5=.cells (cn ([0]++br (dec u).length 0++br (23-(dec u).length) 0)) 0:=by
   rw[ag.bE,ay Jz,apE n]
  have g:=ZA [0] (br (dec u).length 0) (br (23-(dec u).length) 0) (dec u).length u 1 5 (.known 23) rfl (vc ..) n k (dec_lt u) _ r;rw[YT]at g;by_cases c:z<0
  ·have b:z= -(u:Int):=aa;subst b;have l:aG .u64 (-(u:Int))=((18446744073709551616-u:Nat):Int):=by rw[gE];omega
   have A:aG .u64 (-((18446744073709551616-u:Nat):Int))=(u:Int):=by rw[gE];omega
   have C:(-(u:Int))<0:=c;simp(disch:=omega)only[go_sem,z1,z2,decide_true,dt,l,A];rw[K4];refine cy p e ?_;simp(disch:=omega)only[go_sem,f,j];refine g.mono ?_;rintro _ d a;have q:=a.at;have s:dY (some 24) 1 [.ptr 5 0,ai 0]=some (.val (.ptr 5 0)):=rfl;have v:dx [V.int .u8 45] (cn ([0]++dec u++br (23-(dec u).length) 0)) 0=some (cn ([45]++dec u++br (23-(dec u).length) 0)):=by
    rw[gk (by rw[iD];simp)];rfl
   have o:=a.set (cn ([45]++dec u++br (23-(dec u).length) 0));have i:=KE (c:=.known 24) (pre:=[]) (s:=[45]++dec u) (post:=br (23-(dec u).length) 0) (H:=d.set 5 (.cells (cn ([45]++dec u++br (23-(dec u).length) 0)) 0)) (o:=0) (n:=1+(dec u).length) o.at rfl (by simp;omega);have h:GT (d.set 5 (.cells (cn ([45]++dec u++br (23-(dec u).length) 0)) 0)):=e.keep fun y x=>by rw[o.get,au aa]
   simp(disch:=omega)only[go_sem,dt,s,q,v,f,t,i];refine cX h ?_ (.str _);rw[K5 c,lO,cV];rfl
  ·have b:z=(u:Int):=aa;subst b;have l:aG .u64 ((u:Nat):Int)=(u:Int):=cj _ aa;simp(disch:=omega)only[go_sem,z1,z2,decide_true,df,l];rw[K4];refine cy p e ?_;simp(disch:=omega)only[go_sem,f,j];refine g.mono ?_;rintro _ d a;have i:=KE (c:=.known 23) (o:=1) a.at rfl (n:=(dec u).length) rfl;have h:GT d:=e.keep fun y x=>by rw[a.get,au aa]
   simp(disch:=omega)only[go_sem,df,f,j,i];refine cX h ?_ (.str _);rw[zg c,cV]
theorem ZB(z:Int)(a: -9223372036854775808≤z∧z<9223372036854775808):ff 161 [ai z,ai 10] (.str (zt z)):=by
 refine fK (.cons (.int _ _) (.cons (.int _ _) .nil)) (nR Go.Proofs.YtddhncjmaahodaaGreatDoor.hT cA fJ aac.1 aac.2 rfl ?_);simp only[go_sem,OT,OU];refine cy (ah0 z a) gv ?_;simp only[go_sem];exact cX gv rfl (.str _)
theorem YU:∀k c,(dec c).length≤k→c<10^k→dp k c=br (k-(dec c).length) 48++dec c
 |0,c,h,_=>by
  have:=nU c;cases e:dec c with
  |nil=>exact absurd e this
  |cons a l=>rw[e]at h;simp at h
 |k+1,c,h,m=>by
  by_cases b:(dec c).length=k+1
  ·rw[b,lV,oB,eM];have n:1≤k+1:=nh k;refine vK n ?_ m;by_cases o:k=0
   ·exact .inl aa
   ·refine .inr (ja fun g=>?_);rw[pL]at g;have i:c≠0:=fun e=>by rw[e]at b;have:(dec 0).length=1:=rfl;omega
    have j:dec c=ds c:=au i;have:=oO g;rw[←j]at this;omega
  ·have f:(dec c).length≤k:=aa;have d:c<10^k:=ei (dec_lt c) (fN aj f);rw[dp,lT d,YU k c f d,(aa:k+1-(dec c).length=k-(dec c).length+1),oA];rfl
theorem arX(M a:List Nat)(n b g:Nat)(hn:a.length=n)(P:M.take n=a)(ok:W.aM a)(hl:n<1000000)(F:Fr)(H:ag)(R:Go.aE.X→Fr→ag→Prop)(O:dh H b g (aT M))(K:rd 7 F=.slice b 0 n (.grown 1))(L:rd 9 F=az 0)(J:rd 10 F=ai ((n:Int)-1))
 (Q:∀s z c,(∀t,t<16→t≠9→t≠10→rd t s=rd t F)→rd 9 s=az ((W.val a%10000000000000000000:Nat):Int)→c.length=n→W.aM c→W.val c=W.val a/10000000000000000000→k6 H z b g (aT (c++M.drop n))→R (.exit 2) s z):bT (.loop GV) R F H:=by
 have l:(0:Nat)<10000000000000000000∧10000000000000000000<18446744073709551616:=aj
 refine bW (fun j h e=>∃(r:Nat) (c:List Nat),j≤n∧(∀t,t<16→t≠9→t≠10→rd t h=rd t F)∧rd 9 h=az (r:Int)∧rd 10 h=ai ((j:Int)-1)∧W.aM c∧c.length=n-j∧r<10000000000000000000∧W.val c*10000000000000000000+r=W.val (a.drop j)∧k6 H e b g (aT (a.take j++c++M.drop n))) n
  ⟨0,[],aR _,fun _ _ _ _=>rfl,L,J,W.aM.nil,aJ,aj,by rw[i_ aa];simp[W.val],?_⟩ ?_
 ·rw[cq aa,fA,←P,oC];exact k6.refl O
 rintro j h e ⟨r,c,hj,w,A,k,I,aw,o,p,f⟩;have N:=(w 7 aj aj aj).trans K;unfold GV;cases j with
 |zero=>
  simp(disch:=omega)only[go_sem,k,dt];rw[List.drop_zero]at p;rw[nK,eM]at f;refine Q _ _ c (fun t u d v=>?_) ?_ aa I ?_ f
  ·simp(disch:=omega)only[cc];exact w t u d v
  ·simp only[go_sem,A];rw[←p,b3,Nat.mul_add_mod,jr o]
  ·rw[←p,b3,Nat.mul_add_div l.1,lT o,cO]
 |succ i=>
  have G:=ok.getD i;have U:(((i+1:Nat):Int)-1)=(i:Int):=aa;rw[U]at k;have E:=KX l.1 o G;have D:=eK (r*18446744073709551616+a.getD i 0) l.1;have d:=iN (r*18446744073709551616+a.getD i 0) 10000000000000000000;have m:=Be r (a.getD i 0) 10000000000000000000 o G l.2;have ad:a.take (i+1)=a.take i++[a.getD i 0]:=uQ aa;have S:=W.sX (l:=a) (i:=i) aa;generalize(r*18446744073709551616+a.getD i 0)/10000000000000000000=q at E d m
  generalize(r*18446744073709551616+a.getD i 0)%10000000000000000000=r' at D d m
  generalize a.getD i 0=x at*
  have y:(a.take i).length=i:=gK aa;have Z:a.take i++[x]++c++M.drop n=a.take i++x::(c++M.drop n):=aJ;rw[ad,Z]at f;have B:=f.lC;have C:i<(a.take i++x::(c++M.drop n)).length:=by rw[bt,y];simp
  have T:=oT (es:=c++M.drop n) (e:=x) y;have Y:hH false 1 [.ptr b i] e=some (az (x:Int)):=by rw[q5 B,dB C,T]
  have ac:qm 1 [.ptr b i,az (q:Int)] e=some (V.undef,ag.wr e b g (aT (a.take i++q::(c++M.drop n)))):=by
   rw[wT B (by rw[eD];exact C),jI,kW y]
  have ab:((10000000000000000000:Nat):Int)=10000000000000000000:=rfl;rw[ab]at m;simp(disch:=omega)only[go_sem,UN,N,A,k,df,cR,bN,Y];refine use m ?_;simp(disch:=omega)only[go_sem,UM,k,cR,bN,ac,aQ];refine⟨i,aa,r',q::c,aa,fun t u d v=>?_,?_,?_,.mk E I,by simp;omega,D,?_,?_⟩
  ·simp(disch:=omega)only[cc];exact w t u d v
  iterate 2 simp only[go_sem]
  ·rw[S];exact KW d p
  ·have:=f.wr (aT (a.take i++q::(c++M.drop n)));simpa using this
def eU:Nat:=10000000000000000000
def nk(n i:Nat):Nat:=n/eU^i%eU
theorem Yt(n i:Nat):nk n i<eU:=eK _ aj
variable{b:List V}{I:Nat}
theorem bu.apart{v:V}{o:List V}(h:bu c a v b g)(i:dh c z I o)(n:g≠I)(l:∀y,y≠z→y≠I→J.get y=c.get y)(A:c.next≤J.next):bu J a v b g:=by
 cases h with
 |nil=>exact .nil
 |cells d j u t w D C=>
  rename_i k m f;obtain⟨x,s,B⟩:=i.b5;have p:k≠z:=fun e=>by
   rw[e,i.row]at d;cases d;exact n rfl
  have q:k≠I:=fun e=>by rw[e,s]at d;cases d
  have r:g≠z:=fun e=>by rw[e,i.row]at j;cases j
  exact .cells (by rw[l _ p q];exact d) (by rw[l _ r n];exact j) u t w aa aa
theorem bu.anR{v:V}(h:bu c 1 v b a)(d:b.length≠0):a≠0:=by
 cases h with
 |nil=>exact absurd rfl d
 |cells f j i e l k g=>exact e
theorem bu.KD{v:V}(h:bu c 1 v b a)(g:a≠0):∃d,v=.slice d 0 b.length (.grown 1)∧dh c d a b∧d<c.next∧a<c.next:=by
 cases h with
 |nil=>exact absurd rfl g
 |cells j m l i p o k=>
  rename_i d n f;have e:n=b.length:=aa;subst e;exact⟨d,rfl,⟨j,⟨f,m,l⟩,i⟩,k,o⟩
variable{d:List Nat}
theorem Y5{v:V}(p:bu c 1 v (aT d) a)(x:Nat)(A:d.length<1000000)
 (q:∀e l,bu e 1 (.slice (c.next+1) 0 (d.length+1) (.grown 1)) (aT (d++[x])) l→(a=0∧c.next<l∨a≠0∧l=a)→(∀y,y<c.next→(a=0∨y≠a)→e.get y=c.get y)→c.next<e.next→f (put o j (.slice (c.next+1) 0 (d.length+1) (.grown 1))) e):
 gT j f o (ga 1 8 [v,.slice c.next 0 1 (.known 1)] (c.push (.cells [az (x:Int)] 0))):=by
 by_cases g:a=0
 ·have i:v=.ak∧d=[]:=by
   generalize E:aT d=M at p
   cases p with
   |nil=>exact⟨rfl,List.length_eq_zero_iff.1 (by rw[←eD d,E];rfl)⟩
   |cells _ _ _ I _ _ _=>exact absurd g I
  obtain⟨rfl,rfl⟩:=i;obtain⟨H1,h⟩:∃H1,H1=c.push (.cells [az (x:Int)] 0):=⟨_,rfl⟩;have C:∀y,y<c.next→H1.get y=c.get y:=fun y k=>by rw[h,ag.bE,au aa]
  have D:H1.get c.next=.cells [az (x:Int)] 0:=by rw[h,ag.bE,ay rfl]
  have r:H1.next=c.next+1:=by rw[h];rfl
  rw[←h];have z:ec H1 1 1 (.slice c.next 0 1 (.known 1))=some [az (x:Int)]:=by
   show H1.dw c.next 0 (1*1)=_
   rw[gj D,eY];rfl
  have s:ga 1 8 [.ak,.slice c.next 0 1 (.known 1)] H1=some (.slice H1.next 0 1 (.grown 1),(H1.push (.cells [az (x:Int)] (Nat.succ H1.next))).push (.b5 H1.next H1.next)):=by
   show av (some 1) (fun m=>av (ec H1 1 m (.slice c.next 0 1 (.known 1))) fun J=>kL 1 8 .ak m J H1)=_
   show av (ec H1 1 1 (.slice c.next 0 1 (.known 1))) _=_
   rw[z];rfl
  rw[s,r];refine q _ (c.next+2) ?_ (.inl ⟨g,aa⟩) (fun y k _=>?_) ?_
  ·refine .cells (f:=c.next+1) ?_ ?_ (aR _) aa rfl ?_ ?_
   ·rw[ag.bE,au (by show¬(H1.next+1=c.next+1);omega),ag.bE,ay r];rfl
   ·rw[ag.bE,ay (by show H1.next+1=c.next+2;omega)]
   ·show c.next+2<H1.next+1+1;omega
   ·show c.next+1<H1.next+1+1;omega
  ·rw[ag.bE,au (by show¬(H1.next+1=y);omega),ag.bE,au aa]
   exact C y k
  ·show c.next<H1.next+1+1;omega
 ·obtain⟨b,i,u,w,B⟩:=bu.KD p g;rw[eD]at i;subst i;refine Y4 u (cq (aR _)) rfl A w B x ?_;intro e n t L;obtain⟨K,G,H⟩:=n.b5;refine q e a (.cells n.row G H n.ne (by rw[eD];simp) aa aa) (.inr ⟨g,rfl⟩) (fun y k F=>t y k (F.resolve_left g)) aa
theorem af2(n a p x:Nat)(o:List Nat)(ci:n≠0)(cf:(ax n).length<40)(F:Fr)(H:ag)(R:Go.aE.X→Fr→ag→Prop)(ap:rd 7 F=.slice p 0 (ax n).length (.grown 1))(ar:rd 8 F=.ak)(a2:dh H p x (aT o))(a3:o.take (ax n).length=ax n)(bs:W.aM o)(a4:o.length<1000000)(P:a≤p∧p<H.next)(Q:a≤x∧x<H.next)(cA:1≤a)
 (hR:∀z u k j8 d,(∀t,t<7→rd t z=rd t F)→n/eU^(k+1)=0→n/eU^k≠0→k<100→rd 8 z=j8→bu u 1 j8 (aT ((lS (k+1)).map (nk n))) d→(∀b m c,j8=.slice b 0 m c→a≤b)→a≤d→(∀y,y<a→u.get y=H.get y)→a≤u.next→R (.exit 0) z u):bT (.loop GW) R F H:=by
 refine bW (fun w s f=>∃(i b g d:Nat) (M:List Nat) (j8:V),rd 7 s=.slice b 0 (ax w).length (.grown 1)∧dh f b g (aT M)∧M.take (ax w).length=ax w∧W.aM M∧M.length<1000000∧a≤b∧b<f.next∧a≤g∧g<f.next∧w=n/eU^i∧rd 8 s=j8∧bu f 1 j8 (aT ((lS i).map (nk n))) d∧d≠g∧(d=0∨a≤d)∧(∀b m c,j8=.slice b 0 m c→a≤b)∧(∀t,t<7→rd t s=rd t F)∧(∀y,y<a→f.get y=H.get y)∧(i=0∨n/eU^(i-1)≠0)) n
  ⟨0,p,x,0,o,.ak,ap,a2,a3,bs,a4,P.1,P.2,Q.1,Q.2,by rw[mF,nM],ar,.nil,aa,.inl rfl,fun _ _ _ h=>(by cases h),fun _ _=>rfl,fun _ _=>rfl,.inl rfl⟩ ?_
 rintro w s f ⟨i,b,g,d,M,j8,v,N,O,bv,b2,a6,ca,a',cb,l,J,C,D,S,a8,L,U,Y⟩;have bj:w≤n:=by rw[l];exact g7 _ _
 have ch:=kN bj;have ce:i<101:=by
  rcases Y with h|h
  ·omega
  ·refine rQ fun h1=>h ?_
   have h2:n<eU^(i-1):=by
    refine ei (mN n) ?_;have K:(18446744073709551616:Nat)^(ax n).length≤(eU^2)^(ax n).length:=vh aj _;rw[←Nat.pow_mul]at K;exact cI K (fN aj aa)
   exact lT h2
 unfold GW;by_cases q:w=0
 ·have bc:(ax w).length=0:=by rw[q,js];rfl
  simp(disch:=omega)only[go_sem,v,df];have cd:i≠0:=fun e=>by rw[e,mF,nM]at l;omega
  obtain⟨k,rfl⟩:∃k,i=k+1:=⟨i-1,aa⟩;have ba:a≤d:=by
   exact S.resolve_left (bu.anR C (by rw[eD];simp))
  refine hR _ _ k j8 d (fun t E=>?_) (by rw[←l];exact q) (Y.resolve_left (Nat.succ_ne_zero k)) aa ?_ C a8 ba U aa
  ·simp(disch:=omega)only[cc];exact L t E
  ·simp only[go_sem,J]
 ·have bc:=(iE w).2 q;simp(disch:=omega)only[go_sem,U1,U0,v,dt,aQ];refine arX M (ax w) (ax w).length b g rfl O (fV w) aa _ _ _ N ?_ ?_ ?_ ?_
  iterate 3 simp only[go_sem,v]
  intro I A r B dj Z ad ab j;rw[fT]at dj ab;have bO:rd 7 I=.slice b 0 (ax w).length (.grown 1):=(B 7 aj aj aj).trans (by simp only[go_sem,v]);have eV:rd 8 I=j8:=(B 8 aj aj aj).trans (by simp only[go_sem,J]);have co:A.next=f.next:=j.next
  have T:=bu.apart C N D j.get aa;rw[fu];simp(disch:=omega)only[go_sem,UZ,UY,bO];have bd:(r++M.drop (ax w).length).length<1000000:=by
   have:=congrArg jD O;rw[ep]at this;simp;omega
  refine(CO r (r++M.drop (ax w).length) (ax w).length Z (by rw[←Z,oD]) aa b g A j.lC).mono ?_;rintro _ A ⟨rfl,rfl⟩;simp(disch:=omega)only[go_sem,eV,dj];refine Y5 T _ (by simp;omega) fun H3 g3 q1 al G cs=>?_
  simp(disch:=omega)only[go_sem];have ac:=CP r;rw[kX ad,ab]at ac⊢;obtain⟨ra,bi⟩:=ac;have bb:d=0∨b≠d:=T.ne j.lC.row;have be:dh H3 b g (aT (r++M.drop (ax w).length)):=j.lC.keep (G b aa bb) (G g aa (.inr (fun e=>D e.symm)));have a1:1<10000000000000000000:=aj;have a9:w/10000000000000000000=n/eU^(i+1):=by
   rw[l,c3,nL];rfl
  have a7:aT ((lS i).map (nk n)++[w%10000000000000000000])=aT ((lS (i+1)).map (nk n)):=by
   rw[List.range_succ,List.map_append,l];rfl
  rw[a7]at q1;refine⟨w/10000000000000000000,Nat.div_lt_self (jP q) a1,i+1,b,g,g3,_,_,?_,be,JW bi,ad.app (bv.drop _),bd,a6,aa,a',aa,a9,?_,q1,?_,?_,?_,fun t E=>?_,fun y hy=>?_,.inr (by rw[pL,←l];exact q)⟩
  iterate 2 simp only[go_sem]
  ·rcases al with⟨_,h⟩|⟨_,h⟩
   ·omega
   ·rw[h];exact D
  ·rcases al with⟨_,h⟩|⟨h1,h⟩
   ·exact .inr aa
   ·rw[h];exact S
  ·intro b' m' c' e;cases e;omega
  ·simp(disch:=omega)only[cc];refine(B t aa aa aa).trans ?_;simp(disch:=omega)only[cc];exact L t E
  ·rw[G y aa aa,j.get y aa aa];exact U y hy
theorem bu.aiq{v:V}(h:bu c a v b g)(d:0<c.next):g<c.next:=by
 cases h with
 |nil=>exact d
 |cells i l k f m e j=>exact e
theorem eI.aax{v:V}{key:Nat}(h:eI c v i key a m)(d:0<c.next):key<c.next:=by
 cases h with
 |p9 h e=>exact bu.aiq h d
 |bP g j b f e=>exact b
theorem adu(a:Nat){l:List UInt8}{key m:Nat}{kk:Bool}(F:Fr)(H:ag)(R:Go.aE.X→Fr→ag→Prop)(hT:eI H (rd 0 F) l key m kk)(D:l.length+a≤m)(z:5≤H.next)(u:rd 70 F=ai (a:Int))(v:rd 71 F=ai 0)(A:a<1000)
 (w:∀f c d,(∀t,t<16→t≠0→rd t f=rd t F)→eI c (rd 0 f) (l++br a 48) d m kk→hN key d H c→R (.exit 6) f c):bT (.loop GR) R F H:=by
 refine bW (fun k b g=>∃(i e:Nat),k=a-i∧i≤a∧(∀t,t<16→t≠0→rd t b=rd t F)∧rd 70 b=ai (a:Int)∧rd 71 b=ai (i:Int)∧eI g (rd 0 b) (l++br i 48) e m kk∧hN key e H g) a ⟨0,key,rfl,ck _,fun _ _ _=>rfl,u,v,by rw[oB,fA];exact hT,hN.refl _ _⟩ ?_;rintro k b g ⟨i,e,rfl,B,q,h,j,r,p⟩;have E:=p.next
 unfold GR;by_cases C:i<a
 ·simp(disch:=omega)only[go_sem,GQ,U3,h,j,dt];refine w6 r 48 (by simp;omega) aa rfl ?_;intro G c d s y;simp(disch:=omega)only[go_sem,U2,j,aQ];rw[eG,←List.replicate_succ']at s;refine⟨a-(i+1),aa,i+1,d,rfl,aa,fun t n o=>?_,?_,?_,?_,p.trans y⟩
  ·simp(disch:=omega)only[cc];exact q t n o
  ·simp only[go_sem,h]
  ·simp only[go_sem];rfl
  ·simp only[go_sem];exact s
 ·have x:i=a:=aa;subst x;simp(disch:=omega)only[go_sem,GQ,h,j,df];refine w _ _ e (fun t n o=>?_) ?_ p
  ·simp(disch:=omega)only[cc];exact q t n o
  ·simp only[go_sem];exact r
theorem anH(h:r≤0):oR max2 [ai (a:Int),ai r]=some (.val (ai (a:Int))):=by
 have e:max2 (ai (a:Int)) (ai r)=some (ai (a:Int)):=by
  show some (V.int .i64 (match j9 (a:Int) r with|true=>r|false=>(a:Int)))=_;rw[n3,bp (aa:¬(a:Int)<r)]
 show av (av (max2 (ai (a:Int)) (ai r)) fun a=>some a) (fun v=>some (bx.val v))=_;rw[e];rfl
theorem af1(d:z=nk a g):(a/eU^(g+1)=0→dec (a/eU^g)=dec z)∧(a/eU^(g+1)≠0→dec (a/eU^g)=dec (a/eU^(g+1))++(br (19-(dec z).length) 48++dec z)):=by
 have e:a/eU^(g+1)=a/eU^g/eU:=by rw[c3,nL]
 have c:z<eU:=by rw[d];exact Yt a g
 have f:z=a/eU^g%eU:=d;rw[e];generalize a/eU^g=x at*
 have b:eU=10^19:=rfl;have i:0<eU:=aj;refine⟨fun h=>?_,fun h=>?_⟩
 ·have m:x<eU:=by
   rcases k4 x eU with h1|h1
   ·exact h1
   ·have:=Nat.div_pos h1 i;omega
  rw[f,jr m]
 ·have l:(dec z).length≤19:=by
   unfold dec;split
   ·decide
   ·exact oO (k:=19) (by rw[←b];exact c)
  rw[←YU 19 z l (by rw[←b];exact c)];have n:x≠0:=fun e=>by rw[e,Nat.zero_div]at h;exact h rfl
  have j:dec x=ds x:=au n;have k:dec (x/eU)=ds (x/eU):=au h;rw[j,k,←YW (x/eU) h 19 z (by rw[←b];exact c),←b];congr 1;have:=iN x eU;rw[b3]at this;rw[f];exact this.symm
theorem agr(h:a≤g):(dec a).length≤(dec g).length:=by
 have b:=r4 g;have c:dec a=if a=0 then [48]else ds a:=rfl
 rw[c];split
 ·exact b
 ·exact oO (eH h (dec_lt g))
theorem eI.other{v:V}{key:Nat}(h:eI c v i key a m)(t:c.get g=.cells b 0)(l:key≠g)(d:∀y,y<c.next→y≠g→J.get y=c.get y)(D:c.next≤J.next):eI J v i key a m:=by
 cases h with
 |p9 h j=>
  refine .p9 ?_ j;generalize cn i=E at h⊢
  cases h with
  |nil=>exact .nil
  |cells k A z o C B x=>
   rename_i p n f;have q:p≠g:=fun e=>by
    rw[e,t]at k;injection k with _ h
    exact o h.symm
   exact .cells (by rw[d _ x q];exact k) (by rw[d _ B l];exact A) z o C aa aa
 |bP u w r s j=>exact .bP (by rw[d _ r l];exact u) w aa s j
set_option maxHeartbeats 1000000 in
theorem aq1(M:List Nat)(n k a g q:Nat)(et:M.length=k+1)(ci:∀i,i≤k→M.getD i 0=nk n i)(l:List UInt8){key m:Nat}{kk:Bool}(F:Fr)(v H:ag)(co:∀y,y<v.next→H.get y=v.get y)(cp:5≤v.next∧v.next≤H.next)(R:Go.aE.X→Fr→ag→Prop)(dp:n/eU^(k+1)=0)(dq:n/eU^k≠0)(hk:k<100)(hm:l.length+(dec n).length≤m)(hT:eI H (rd 0 F) l key m kk)(hg:GT H)(h5:5≤H.next)(fb:key=0∨5≤key)(X:List UInt8)(hX:X.length=20)
 (e2:rd 2 F=ai 0) (ce:rd 8 F=.slice a 0 (k+1) (.grown 1)) (b':rd 11 F=.ptr q 0) (ca:rd 12 F=cC) (cb:rd 13 F=ai (k:Int)) (ab:dh H a g (aT M)) (a9:H.get q=.cells (cn X) 0) (dT:key<v.next∧v.next≤a∧v.next≤g∧v.next≤q) (d0:a<H.next∧g<H.next∧q<H.next) (fd:5≤q∧5≤a∧5≤g)
 (hR:∀F' H' b2,eI H' (rd 0 F') (l++dec n) b2 m kk→rd 12 F'=aq→hN key b2 v H'→R (.exit 4) F' H'):bT (.loop GU) R F H:=by
 have ex:q≠a:=fun e=>by
  have:=ab.row;rw[←e,a9]at this;injection this with _ h
  exact ab.ne h.symm
 have eQ:q≠g:=fun e=>by
  obtain⟨f,z,B⟩:=ab.b5;rw[←e,a9]at z;cases z
 have da:∀j,(dec (n/eU^j)).length≤(dec n).length:=fun j=>agr (g7 _ _)
 refine bW (fun j E p=>∃(d:Nat) (W:List UInt8),j≤k+1∧eI p (rd 0 E) (l++if j=k+1 then []else dec (n/eU^j)) d m kk∧hN key d v p∧(d=key∨H.next<d)∧H.next≤p.next∧rd 2 E=ai 0∧rd 8 E=.slice a 0 (k+1) (.grown 1)∧rd 11 E=.ptr q 0∧rd 12 E=.bool (decide (j=k+1))∧rd 13 E=ai ((j:Int)-1)∧dh p a g (aT M)∧p.get q=.cells (cn W) 0∧W.length=20∧GT p) (k+1)
  ⟨key,X,aR _,by rw[ay rfl,fA];exact hT,⟨.inl rfl,fun y s _=>co y s,cp.2⟩,.inl rfl,aR _,e2,ce,b',by rw[bw rfl];exact ca,by rw[cb];congr 1;omega,ab,a9,hX,hg⟩ ?_
 rintro j E p ⟨d,W,hj,ac,A,bc,fi,f2,f8,ap,P,L,a4,b0,ev,bb⟩;have fn:=A.next
 have du:d≠q∧d≠a∧d≠g∧(d=0∨5≤d):=by
  obtain⟨a0,Y,Z,eh⟩:=dT;obtain⟨el,em,eq⟩:=d0;rcases bc with h|h
  ·exact⟨aa,aa,aa,aa⟩
  ·exact⟨aa,aa,aa,aa⟩
 unfold GU;cases j with
 |zero=>
  simp(disch:=omega)only[go_sem,L];rw[au aa,mF,nM]at ac;refine hR _ _ d ?_ ?_ A
  ·simp only[go_sem];exact ac
  ·simp only[go_sem,P]
   try rw[bp (aa:¬0=k+1)]
   try rfl
 |succ i=>
  have dk:(((i+1:Nat):Int)-1)=(i:Int):=aa;rw[dk]at L;obtain⟨K,a7⟩:∃T,T=(if i+1=k+1 then []else dec (n/eU^(i+1))):=⟨_,rfl⟩;rw[←a7]at ac;obtain⟨c,hc⟩:∃c,c=nk n i:=⟨_,rfl⟩;have b1:c<eU:=by rw[hc];exact Yt n i
  have c':c<18446744073709551616:=oG b1 aj;have e0:(dec c).length≤19:=by
   unfold dec;split
   ·decide
   ·exact oO (k:=19) b1
  obtain⟨d7,d8⟩:=af1 hc;have dd:M.getD i 0=c:=by rw[ci i aa,hc]
  have dC:hH false 1 [.ptr a i] p=some (az (c:Int)):=by rw[q5 a4,dB aa,dd]
  have d6:slice3 (lK 20 1) false true false [.ptr q 0,ai 0]=some (.val (.slice q 0 0 (.known 20))):=by
   rw[Cx,sR aa];rfl
  have c0:eI p (.slice q 0 0 (.known 20)) [] q 20 true:=.bP (l:=[]) (rest:=W) (by rw[eM];exact b0) (by simp;omega) aa aa aj;simp(disch:=omega)only[go_sem,UO,f8,ap,L,df,d6,cR,bN,dC];refine(LD c c' p c0 (by simp;omega) bb aa).mono ?_;rintro vd r ⟨b,a6,a3⟩;rw[eM]at a6;have dt:b=q:=by rcases a3.key with h|⟨h,_⟩<;>omega
  subst dt;obtain⟨J,cf,ad,fp⟩:∃J,vd=.slice b 0 (dec c).length (.known 20)∧r.get b=.cells (cn (dec c++J)) 0∧(dec c).length+J.length=20:=by
   cases a6 with
   |bP hb hl h0 h5 hm=>exact⟨_,rfl,hb,hl⟩
  subst cf;clear a6;have C:∀y,y<p.next→y≠b→r.get y=p.get y:=fun y s U=>a3.keep y s (.inr U)
  have d1:=a3.next
  have bs:=ac.other b0 du.1 C d1;have e1:=r4 c;have fg:H.next≤r.next:=aa
  have bv:∀am,(K++(br am 48++dec c))=dec (n/eU^i)→l.length+K.length+am+(dec c).length≤m:=fun am h=>by
   have z:=congrArg jD h;have B:=da i;simp only[bt,vc]at z;omega
  by_cases dl:i=k
  ·have Q:(K++(br 0 48++dec c))=dec (n/eU^i):=by
    rw[a7,ay aa,oB,eM,eM,d7 (by rw[dl];exact dp)]
   have d5:=bv 0 Q;have ba:decide (i+1=k+1)=true:=bw aa;have d4:(0:Int)-19*(i:Int)≤0:=aa;have d9:aG .i64 ((19:Int)*(i:Int))=19*(i:Int):=aQ _ aa;have d':aG .i64 ((0:Int)-19*(i:Int))=0-19*(i:Int):=aQ _ aa;have be:aG .i64 ((((dec c).length:Nat):Int)-(((dec c).length:Nat):Int))=((0:Nat):Int):=by rw[aQ _ aa];omega
   rw[ba]at P;simp(disch:=omega)only[go_sem,f2,P,L,d9,d',anH d4,be];refine adu (0) (l:=l++K) (key:=d) (m:=m) (kk:=kk) _ r _ ?_ ?_ aa ?_ ?_ aa ?_
   ·simp only[go_sem];exact bs
   ·rw[bt];omega
   iterate 2 simp only[go_sem]
   intro w N u x a5 o;have eV:rd 8 w=.slice a 0 (k+1) (.grown 1):=(x 8 aj aj).trans (by simp only[go_sem,f8]);have g2:rd 2 w=ai 0:=(x 2 aj aj).trans (by simp only[go_sem,f2]);have sk:rd 11 w=.ptr b 0:=(x 11 aj aj).trans (by simp only[go_sem,ap]);have qX:rd 13 w=ai (i:Int):=(x 13 aj aj).trans (by simp only[go_sem,L]);have p6:rd 14 w=.slice b 0 (dec c).length (.known 20):=(x 14 aj aj).trans (by simp only[go_sem]);have a8:N.get b=.cells (cn (dec c++J)) 0:=by rw[o.keep b aa aa];exact ad
   have d2:=o.next
   rw[fu];simp(disch:=omega)only[go_sem,p6];refine y6 a5 (s:=dec c) rfl ?_ aa ?_ aa ?_
   ·show N.dw b 0 ((dec c).length*1)=_;rw[gj a8,eY,dQ,pX,eR,ay (by rw[bt,iD];omega),xh (by rw[iD];exact aR _),cq (by rw[iD];exact aR _)]
   ·simp only[bt,vc];omega
   intro v' O D V t;simp(disch:=omega)only[go_sem,GS,qX,aQ];have ds:u≠b∧u≠a∧u≠g:=by
    rcases o.key with h|⟨_,h⟩
    ·exact⟨aa,aa,aa⟩
    ·exact⟨aa,aa,aa⟩
   have I:∀y,y<r.next→y≠d→y≠u→O.get y=r.get y:=fun y s z G=>(t.keep y aa (.inr G)).trans (o.keep y s (.inr z))
   have bd:D=key∨H.next<D:=by
    rcases(o.trans t).key with h|⟨h,h'⟩
    ·rw[h];exact bc
    ·exact .inr aa
   have a2:hN key D v O:=by
    have S:=o.trans t;refine⟨?_,fun y s bo=>?_,by have:=t.next;omega⟩
    ·rcases S.key with h|⟨h,h'⟩
     ·rw[h];exact A.key
     ·rcases A.key with B|⟨B,G⟩
      ·exact .inr ⟨aa,aa⟩
      ·omega
    ·by_cases U:y=b
     ·omega
     ·have bi:d=0∨y≠d:=by
       rcases A.key with B|⟨B,G⟩<;>omega
      rw[S.keep y aa bi,C y aa U];exact A.keep y s bo
   refine⟨i,aa,D,dec c++J,aa,?_,a2,bd,by have:=t.next;omega,?_,?_,?_,?_,?_,?_,?_,by rw[bt];omega,?_⟩
   ·simp only[go_sem];rw[au aa,←Q];simp only[eG]at V⊢;exact V
   iterate 3 simp only[go_sem,g2,eV,sk]
   ·simp only[go_sem];rw[bp aa]
   ·simp only[go_sem]
   ·have Y:r.get a=p.get a:=C a aa aa;have Z:r.get g=p.get g:=C g aa aa;exact a4.keep ((I a aa aa aa).trans Y) ((I g aa aa aa).trans Z)
   ·rw[I b aa aa aa];exact ad
   ·refine bb.keep fun y s=>?_
    have bj:u=0∨y≠u:=by rcases o.key with h|⟨_,h⟩<;>omega
    rw[t.keep y aa bj,o.keep y aa aa,C y aa aa]
  ·have Q:(K++(br (19-(dec c).length) 48++dec c))=dec (n/eU^i):=by
    have d3:n/eU^(i+1)≠0:=fun e=>by
     have z:n<eU^(i+1):=by
      rcases k4 n (eU^(i+1))with h|h
      ·exact h
      ·have:=Nat.div_pos h (e8 (aj:0<eU));omega
     exact dq (lT (ei z (fN aj aa)))
    rw[a7,au aa,d8 d3]
   have d5:=bv (19-(dec c).length) Q;have ba:decide (i+1=k+1)=false:=bp aa;have be:aG .i64 ((19:Int)-(((dec c).length:Nat):Int))=((19-(dec c).length:Nat):Int):=by rw[aQ _ aa];omega
   rw[ba]at P;simp(disch:=omega)only[go_sem,P,be];refine adu (19-(dec c).length) (l:=l++K) (key:=d) (m:=m) (kk:=kk) _ r _ ?_ ?_ aa ?_ ?_ aa ?_
   ·simp only[go_sem];exact bs
   ·rw[bt];omega
   iterate 2 simp only[go_sem]
   intro w N u x a5 o;have eV:rd 8 w=.slice a 0 (k+1) (.grown 1):=(x 8 aj aj).trans (by simp only[go_sem,f8]);have g2:rd 2 w=ai 0:=(x 2 aj aj).trans (by simp only[go_sem,f2]);have sk:rd 11 w=.ptr b 0:=(x 11 aj aj).trans (by simp only[go_sem,ap]);have qX:rd 13 w=ai (i:Int):=(x 13 aj aj).trans (by simp only[go_sem,L]);have p6:rd 14 w=.slice b 0 (dec c).length (.known 20):=(x 14 aj aj).trans (by simp only[go_sem]);have a8:N.get b=.cells (cn (dec c++J)) 0:=by rw[o.keep b aa aa];exact ad
   have d2:=o.next
   rw[fu];simp(disch:=omega)only[go_sem,p6];refine y6 a5 (s:=dec c) rfl ?_ aa ?_ aa ?_
   ·show N.dw b 0 ((dec c).length*1)=_;rw[gj a8,eY,dQ,pX,eR,ay (by rw[bt,iD];omega),xh (by rw[iD];exact aR _),cq (by rw[iD];exact aR _)]
   ·simp only[bt,vc];omega
   intro v' O D V t;simp(disch:=omega)only[go_sem,GS,qX,aQ];have ds:u≠b∧u≠a∧u≠g:=by
    rcases o.key with h|⟨_,h⟩
    ·exact⟨aa,aa,aa⟩
    ·exact⟨aa,aa,aa⟩
   have I:∀y,y<r.next→y≠d→y≠u→O.get y=r.get y:=fun y s z G=>(t.keep y aa (.inr G)).trans (o.keep y s (.inr z))
   have bd:D=key∨H.next<D:=by
    rcases(o.trans t).key with h|⟨h,h'⟩
    ·rw[h];exact bc
    ·exact .inr aa
   have a2:hN key D v O:=by
    have S:=o.trans t;refine⟨?_,fun y s bo=>?_,by have:=t.next;omega⟩
    ·rcases S.key with h|⟨h,h'⟩
     ·rw[h];exact A.key
     ·rcases A.key with B|⟨B,G⟩
      ·exact .inr ⟨aa,aa⟩
      ·omega
    ·by_cases U:y=b
     ·omega
     ·have bi:d=0∨y≠d:=by
       rcases A.key with B|⟨B,G⟩<;>omega
      rw[S.keep y aa bi,C y aa U];exact A.keep y s bo
   refine⟨i,aa,D,dec c++J,aa,?_,a2,bd,by have:=t.next;omega,?_,?_,?_,?_,?_,?_,?_,by rw[bt];omega,?_⟩
   ·simp only[go_sem];rw[au aa,←Q];simp only[eG]at V⊢;exact V
   iterate 3 simp only[go_sem,g2,eV,sk]
   ·simp only[go_sem];rw[bp aa]
   ·simp only[go_sem]
   ·have Y:r.get a=p.get a:=C a aa aa;have Z:r.get g=p.get g:=C g aa aa;exact a4.keep ((I a aa aa aa).trans Y) ((I g aa aa aa).trans Z)
   ·rw[I b aa aa aa];exact ad
   ·refine bb.keep fun y s=>?_
    have bj:u=0∨y≠u:=by rcases o.key with h|⟨_,h⟩<;>omega
    rw[t.keep y aa bj,o.keep y aa aa,C y aa aa]
theorem asa:[V.int .u8 0,.int .u8 0,.int .u8 0,.int .u8 0,.int .u8 0,.int .u8 0,.int .u8 0,.int .u8 0,.int .u8 0,.int .u8 0,.int .u8 0,.int .u8 0,.int .u8 0,.int .u8 0,.int .u8 0,.int .u8 0,.int .u8 0,.int .u8 0,.int .u8 0,.int .u8 0]=cn (br 20 0):=rfl
theorem LC(n:Nat)(r:n≠0)(U:(ax n).length<40){v:V}{key:Nat}(H:ag)(hT:eI H v i key a m)(W:i.length+(dec n).length≤a)(I:GT H)(x:5≤H.next)(Q:key=0∨5≤key):dN 354 [v,bz (ax n),ai 0] H fun Z d=>∃f,eI d Z (i++dec n) f a m∧hN key f H d:=by
 have S:=(iE n).2 r;have R:=hT.aax aa;refine nR Go.Proofs.YtddhncjmaahodaaGreatDoor.hT cA fJ aap.1 aap.2 rfl ?_;simp(disch:=omega)only[go_sem,UL,UX];refine(xZ (ax n) ⟨S,aa⟩ H).mono ?_;rintro _ d ⟨rfl,B,am,M⟩;simp(disch:=omega)only[go_sem,UW,UU];refine af2 n H.next (H.next+1) (H.next+2) (ax n) r U _ d _ ?_ ?_ B (cq (aR _)) (fV n) aa ⟨aa,aa⟩ ⟨aa,aa⟩ aa ?_
 iterate 2 simp only[go_sem]
 intro l b k j8 o h L N O eV K G J P X;have t:rd 0 l=v:=(h 0 aj).trans (by simp only[go_sem]);have u:rd 2 l=ai 0:=(h 2 aj).trans (by simp only[go_sem]);clear h;obtain⟨g,j,C,ad,ae⟩:=bu.KD K aa;have T:(aT ((lS (k+1)).map (nk n))).length=k+1:=by rw[eD,lQ,List.length_range]
 rw[T]at j;have F:=G g _ _ j;rw[j]at eV;have aiR:((lS (k+1)).map (nk n)).length=k+1:=by rw[lQ,List.length_range]
 have z:∀e,e≤k→((lS (k+1)).map (nk n)).getD e 0=nk n e:=fun e hi=>by
  rw[c_,qE,List.getElem?_range aa];rfl
 generalize(lS (k+1)).map (nk n)=s at*
 have p:∀y,y<H.next→b.get y=H.get y:=fun y c=>(P y c).trans (M y c)
 have q:∀y,y<H.next→(b.push (.cells (cn (br 20 0)) 0)).get y=H.get y:=fun y c=>by
  rw[ag.bE,au aa];exact p y c
 have D:eI (b.push (.cells (cn (br 20 0)) 0)) v i key a m:=(hT.low p X).push _;have Y:aG .i64 (((k+1:Nat):Int)-1)=(k:Int):=by rw[aQ _ aa];omega
 rw[fu];simp(disch:=omega)only[go_sem,UT,US,UR,eV,Y];rw[asa];refine aq1 s n k g o b.next aiR z i (key:=key) (m:=a) (kk:=m) _ H (b.push (.cells (cn (br 20 0)) 0)) q ⟨x,by show H.next≤b.next+1;omega⟩ _ L N O W ?_ (I.keep fun y c=>q y aa) (by show 5≤b.next+1;omega) Q (br 20 0) (vc ..) ?_ ?_ ?_ ?_ ?_ (C.keep (by rw[ag.bE,au aa]) (by rw[ag.bE,au aa])) (by rw[ag.bE,ay rfl]) ⟨R,F,J,aa⟩ ⟨by show g<b.next+1;omega,by show o<b.next+1;omega,by show b.next<b.next+1;omega⟩ ⟨aa,aa,aa⟩ ?_
 ·simp only[go_sem,t];exact D
 iterate 5 simp only[go_sem,u,eV]
 intro ab H4 f E w A;rw[fu];simp only[go_sem,UQ,UP,w];exact⟨f,E,A⟩
variable{s:V}
theorem ad9(n:Nat)(o:n≠0)(t:(ax n).length≤30){v:V}(p:eC s=some (.val (ai ((a:Nat):Int))))(q:a<1000){key:Nat}(H:ag)(hT:eI H v i key g m)(l:i.length+(dec n).length≤g)(j:GT H)(h:5≤H.next)(k:key=0∨5≤key):dN 297 [v,bz (ax n),ai 0,s] H fun f c=>∃b,eI c f (i++dec n) b g m∧hN key b H c:=by
 refine nR Go.Proofs.YtddhncjmaahodaaGreatDoor.hT cA fJ aan.1 aan.2 rfl ?_;by_cases r:a=0
 ·simp(disch:=omega)only[go_sem,Gf,Gh,Gg,p,aQ,dt];refine(LC n o aa H hT l j h k).mono ?_;rintro f c ⟨b,d,e⟩;simp only[go_sem];exact⟨b,d,e⟩
 ·simp(disch:=omega)only[go_sem,Gf,Gh,Gg,p,aQ,df];refine(LC n o aa H hT l j h k).mono ?_;rintro f c ⟨b,d,e⟩;simp only[go_sem];exact⟨b,d,e⟩
theorem eI.str{v:V}{key:Nat}(h:eI c v i key a m):rD [v] c=some (.str i):=by
 cases h with
 |p9 h d=>exact h.str
 |bP b g e f d=>exact KE (pre:=[]) (by rw[eM];exact b) rfl rfl
theorem LF(n:Nat)(D:(ax n).length≤30){v:V}{key:Nat}(H:ag)(hT:eI H v i key a m)(j:i.length+(dec n).length≤a)(s:GT H)(A:5≤H.next)(C:key=0∨5≤key):dN 232 [v,bz (ax n)] H fun l b=>∃c,eI b l (i++dec n) c a m∧hN key c H b:=by
 refine nR Go.Proofs.YtddhncjmaahodaaGreatDoor.hT cA fJ aaj.1 aaj.2 rfl ?_;by_cases g:n=0
 ·subst g;have M:(((ax 0).length:Nat):Int)=0:=by rw[js];rfl
  have E:i.length+1≤a:=j;simp(disch:=omega)only[go_sem,z3,z4,dt];refine w6 hT 48 E aa rfl ?_;intro N J c d e;simp only[go_sem];exact⟨c,d,e⟩
 have L:=(iE n).2 g;by_cases q:(ax n).length=1
 ·have t:=mN n;rw[q,Nat.pow_one]at t;have F:(ax n).getD 0 0=n:=by
   obtain⟨r,o,p⟩:=lM n g;rw[q]at o p;simp only[lV,mF,dQ]at o p;omega
  have B:dY none 1 [bz (ax n),ai 0]=some (.val (.dm (aT (ax n)) 0)):=gw ⟨aj,aa⟩;simp(disch:=omega)only[go_sem,z3,z4,FH,df,dt,B,dB,F];refine(LD n t H hT j s A).mono ?_;rintro l b ⟨c,d,e⟩;simp only[go_sem];exact⟨c,d,e⟩
 ·simp(disch:=omega)only[go_sem,z3,z4,FH,Ro,Rn,df];refine bW (fun k f b=>k=0∧rd 0 f=v∧rd 1 f=bz (ax n)∧rd 5 f=.slice (H.next+1) 0 1 (.known 1)∧(∀y,y<H.next→b.get y=H.get y)∧H.next≤b.next) 0 ⟨rfl,?_,?_,?_,?_,?_⟩ ?_
  iterate 3 simp only[go_sem]
  ·intro y I;simp(disch:=omega)only[go_sem,au]
  ·simp only[go_sem];omega
  rintro k f b ⟨rfl,w,x,z,h,u⟩;unfold Rl;simp(disch:=omega)only[go_sem,Rm,w,x,z,df];have G:eC (V.slice (H.next+1) 0 1 (.known 1))=some (.val (ai ((1:Nat):Int))):=rfl
  refine(ad9 n g D G aj b (hT.low h u) j (s.keep fun y I=>h y aa) aa C).mono ?_;rintro l K ⟨c,d,e⟩;simp only[go_sem];exact⟨c,d,e.after h u⟩
theorem KU(z:Int)(t:(ax z.natAbs).length≤30){v:V}{key:Nat}(H:ag)(hT:eI H v i key a m)(g:i.length+(zt z).length≤a)(r:GT H)(q:5≤H.next)(s:key=0∨5≤key):dN 169 [b6 z,v] H fun o d=>∃c,eI d o (i++zt z) c a m∧hN key c H d:=by
 refine nR Go.Proofs.YtddhncjmaahodaaGreatDoor.hT cA fJ aaf.1 aaf.2 rfl ?_;have f:∀y,y<H.next→(H.push (.cells [.bool (decide (z<0)),bz (ax z.natAbs)] 0)).get y=H.get y:=fun y D=>by rw[ag.bE,au aa]
 have e:=hT.push (.cells [.bool (decide (z<0)),bz (ax z.natAbs)] 0);have k:GT (H.push (.cells [.bool (decide (z<0)),bz (ax z.natAbs)] 0)):=r.push q _;by_cases b:z<0
 ·rw[bw b]at f e k;rw[K5 b]at g⊢;simp only[di]at g;simp(disch:=omega)only[go_sem,EJ,EL,b6,c5,bw b];refine w6 (H:=H.push (.cells [cC,bz (ax z.natAbs)] 0)) e 45 aa (by show H.next+1≠0;omega) rfl ?_
  intro E p c A u;have cu:=u.after (H:=H) f (Nat.le_succ _);have w:p.get H.next=.cells [cC,bz (ax z.natAbs)] 0:=by
   have B:=hT.aax aa;rw[u.keep H.next (lU _) aa,ag.bE,ay rfl]
  have x:c=0∨5≤c:=by
   rcases cu.key with h|⟨_,h⟩<;>omega
  have C:=cu.next
  simp(disch:=omega)only[go_sem,EK,w];refine(LF z.natAbs t p A (by simp;omega) (sn cu r q s) aa x).mono ?_;rintro o d ⟨n,j,l⟩;simp only[go_sem];refine⟨n,?_,cu.trans l⟩;rw[eG]at j;exact j
 ·rw[bp b]at f e k;rw[zg b]at g⊢;simp(disch:=omega)only[go_sem,EJ,EL,EK,b6,c5,bp b];refine(LF z.natAbs t _ e g k (by show 5≤H.next+1;omega) s).mono ?_
  rintro o d ⟨n,j,l⟩;simp only[go_sem];exact⟨n,j,l.after f (Nat.le_succ _)⟩
theorem YN(h:(ax a).length≤30):(dec a).length≤601:=by
 have b:=mN a;have c:a<10^600:=@Go.aV.B7 a 18446744073709551616 (ax a).length 10 20 600 b aj aa aj;unfold dec;split
 ·decide
 ·exact Nat.le_succ_of_le (oO c)
theorem ar9(z:Int)(b:(ax z.natAbs).length≤30):ff 168 [b6 z] (.str (zt z)):=by
 refine fK (.cons (fh _) .nil) (nR Go.Proofs.YtddhncjmaahodaaGreatDoor.hT cA fJ aae.1 aae.2 rfl ?_);have d:(zt z).length≤1000:=by
  have:=YN b;unfold zt;split<;>simp<;>omega
 simp only[go_sem,O9,O_,b6,c5];have a:GT (dG.push (.cells [.bool (decide (z<0)),bz (ax z.natAbs)] 0)):=gv.push aj _;refine(KU z b _ (eI.p9 (l:=[]) (m:=1000) .nil aj) (by simpa using d) a (by show 5≤6;decide) (.inl rfl)).mono ?_;rintro h f ⟨g,c,e⟩;rw[eM]at c;simp only[go_sem,c.str];exact cX (sn e a (by show 5≤6;decide) (.inl rfl)) rfl (.str _)
theorem arf{ds:List Nat}{w:Nat}(c:W.aM ds)(e:ds.length=(ax w).length)(h:w≤W.val ds):ds=ax (W.val ds):=by
 have d:=kN h;have b:=kX c;have a:=CQ ds;rw[b,cq aa]at a;exact a.symm
theorem ang(a:List Nat)(f h n b g:Nat)(hx:W.aM a)(T:f<18446744073709551616)(U:h<18446744073709551616)(hn:a.length=n)(a0:n<1000000)(F:Fr)(H:ag)(R:Go.aE.X→Fr→ag→Prop)(Q:dh H b g (aT a))(I:rd 3 F=.slice b 0 n (.grown 1))(M:rd 6 F=az (f:Int))(N:rd 9 F=az (h:Int))(J:rd 42 F=.slice b 0 n (.grown 1))(K:rd 43 F=ai (n:Int))(L:rd 44 F=ai 0)
 (S:∀l u ds k,(∀t,t<9→rd t l=rd t F)→rd 9 l=az ((k:Nat):Int)→k<18446744073709551616→ds.length=n→W.aM ds→W.val ds+18446744073709551616^n*k=h+W.val a*f→k6 H u b g (aT ds)→R (.exit 4) l u):bT (.loop xQ) R F H:=by
 refine bW (fun k d e=>∃(ds:List Nat) (c:Nat),k=n-ds.length∧ds.length≤n∧(∀t,t<9→rd t d=rd t F)∧rd 9 d=az (c:Int)∧rd 42 d=.slice b 0 n (.grown 1)∧rd 43 d=ai (n:Int)∧rd 44 d=ai (ds.length:Int)∧c<18446744073709551616∧W.aM ds∧
  W.val ds+18446744073709551616^ds.length*c=h+W.val (a.take ds.length)*f∧k6 H e b g (aT (ds++a.drop ds.length))) n ⟨[],h,rfl,ck _,fun _ _=>rfl,N,J,K,L,U,W.aM.nil,by simp[W.val],k6.refl Q⟩ ?_
 rintro k d e ⟨ds,c,rfl,hd,j,w,v,m,o,y,E,s,i⟩;have O:=(j 3 aj).trans I;have P:=(j 6 aj).trans M;unfold xQ;by_cases hi:ds.length<n
 ·have D:=hx.getD ds.length;have z:=pZ (l:=a) (i:=ds.length) aa;have C:=jX (l:=a) (i:=ds.length) aa;obtain⟨x,ex⟩:∃x,a.getD ds.length 0=x:=⟨_,rfl⟩;rw[ex]at z D C;rw[z]at i;have A:=i.lC;have Y:=x7 ds (a.drop (ds.length+1)) x;have B:ds.length<(ds++x::a.drop (ds.length+1)).length:=aJ;have Z:hH false 1 [.ptr b ds.length] e=some (az (x:Int)):=by rw[q5 A,dB B,Y]
  obtain⟨p,G,p1,p2,p3,am⟩:=yq x f c D T y;have ab:qm 1 [.ptr b ds.length,az (p:Int)] e=some (V.undef,ag.wr e b g (aT (ds++p::a.drop (ds.length+1)))):=by
   rw[wT A (by rw[eD];exact B),jI,kW rfl]
  simp(disch:=omega)only[go_sem,Ax,Ua,O,P,w,v,m,o,dt,cR,bN,Z];refine use am ?_;simp(disch:=omega)only[go_sem,T',o,cR,bN,ab,aQ];refine⟨n-(ds.length+1),aa,ds++[p],G,aJ,by simp;omega,fun t r=>?_,?_,?_,?_,?_,p2,E.app (.mk p1 W.aM.nil),?_,?_⟩
  ·simp(disch:=omega)only[cc];exact j t r
  iterate 3 simp only[go_sem,v,m]
  ·simp only[go_sem,bt,gm];rfl
  ·rw[W.fl];simp only[bt,gm,c3,W.val,fe,cO];rw[C];have:=abx (z:=0) (x:=x) s (by rw[fB];exact p3.symm);rw[fe,cO]at this;exact this
  ·have:=i.wr (aT ((ds++[p])++a.drop (ds.length+1)));simpa using this
 ·have q:ds.length=n:=aa;simp(disch:=omega)only[go_sem,Ax,m,o,df];rw[q,cq aa]at s;rw[q,i_ aa,fA]at i;refine S _ _ ds c (fun t r=>?_) ?_ y q E s i
  ·simp(disch:=omega)only[cc];exact j t r
  ·simp only[go_sem,w]
theorem IA:∀(l:List UInt8) (a:Nat),l.foldl (fun a c=>10*a+(c.toNat-48)) a=a*10^l.length+dv l
 |[],a=>by simp[dv]
 |c::l,a=>by
  have b:dv (c::l)=l.foldl (fun a c=>10*a+(c.toNat-48)) (10*0+(c.toNat-48)):=rfl;rw[b,List.foldl_cons,IA l,IA l,di,c3,cZ,fe,fB];rw[b3 10 a,cg,b3 10];omega
theorem YX(a b:List UInt8):dv (a++b)=dv a*10^b.length+dv b:=by
 have h:dv (a++b)=b.foldl (fun a c=>10*a+(c.toNat-48)) (dv a):=by
  show(a++b).foldl _ 0=_;rw[List.foldl_append];rfl
 rw[h,IA]
theorem agX(s:List UInt8)(a:∀c∈s,dV c):(ax (dv s)).length≤s.length:=
 tR (ei (nr s a) (vh aj _))
theorem anf(a:List Nat)(h e g:Nat)(v:V)(P:W.aM a)(K:h<18446744073709551616)(x:e<18446744073709551616)(N:a.length<1000000)(F:Fr)(H:ag)(R:Go.aE.X→Fr→ag→Prop)(n:bu H 1 v (aT a) g)(y:rd 3 F=v)(B:rd 6 F=az (h:Int))(s:rd 9 F=az (e:Int))(z:rd 42 F=v)(q:rd 43 F=ai (a.length:Int))(r:rd 44 F=ai 0)
 (w:∀c d ds k,(∀t,t<9→rd t c=rd t F)→rd 9 c=az ((k:Nat):Int)→k<18446744073709551616→ds.length=a.length→W.aM ds→W.val ds+18446744073709551616^a.length*k=e+W.val a*h→bu d 1 v (aT ds) g→d.next=H.next→R (.exit 4) c d):bT (.loop xQ) R F H:=by
 by_cases m:g=0
 ·have j:v=.ak∧a=[]:=by
   generalize O:aT a=Z at n
   cases n with
   |nil=>exact⟨rfl,List.length_eq_zero_iff.1 (by rw[←eD a,O];rfl)⟩
   |cells _ _ _ T _ _ _=>exact absurd m T
  obtain⟨rfl,rfl⟩:=j;refine bW (fun k l p=>k=0∧l=F∧p=H) 0 ⟨rfl,rfl,rfl⟩ ?_;rintro k l p ⟨rfl,rfl,rfl⟩;have A:rd 43 l=ai 0:=q;have U:¬(0:Int)<0:=aj;unfold xQ;simp(disch:=assumption)only[go_sem,Ax,A,r,df];refine w _ _ [] e (fun t Y=>?_) ?_ x rfl W.aM.nil (by simp[W.val]) (by rw[m];exact .nil) rfl
  ·simp(disch:=omega)only[cc]
  ·simp only[go_sem,s]
 ·obtain⟨b,j,J,L,M⟩:=bu.KD n m;rw[eD]at j;subst j;refine ang a h e a.length b g P K x rfl N F H R J y B s z q r ?_;intro c d ds k C D E u G I i;have o:=i.lC;obtain⟨f,Q,S⟩:=o.b5;refine w c d ds k C D E u G I ?_ i.next
  rw[←u];exact .cells o.row Q S o.ne (by rw[eD,dQ]) (by rw[i.next];exact M) (by rw[i.next];exact L)
theorem aou(s:List UInt8)(G:∀c∈s,dV c)(hl:s.length≤10000):bA 307 [.str s] (bz (ax (dv s))):=by
 refine e3 (.cons (.str _) .nil) (bg alK ?_);simp only[go_sem,TY,T_,T9];refine bW (fun k n i=>∃(b a:List UInt8) (v:V) (g:Nat),s=b++a∧k=a.length∧rd 0 n=.str a∧rd 3 n=v∧bu i 1 v (aT (ax (dv b))) g∧5≤i.next) s.length ⟨[],s,.ak,0,rfl,rfl,?_,?_,by rw[show dv []=0 from rfl,js];exact .nil,aR 5⟩ ?_
 iterate 2 simp only[go_sem]
 rintro k n i ⟨b,a,v,g,f,rfl,r,z,w,bb⟩;unfold T7;have a':s.length=b.length+a.length:=by rw[f,bt]
 by_cases A:a=[]
 ·subst A;rw[fA]at f;have a5:¬(0:Int)<(([]:List UInt8).length:Nat):=aj;simp(disch:=assumption)only[go_sem,T8,r,z,df];exact⟨_,ah_ w,dA _,by rw[f]⟩
 ·have bc:=vb.2 A;obtain⟨m,em⟩:∃m,m=(a.length-1)%19+1:=⟨_,rfl⟩;have ba:m≤19:=aa;have U:m≤a.length:=by
   have:=Nat.mod_le (a.length-1) 19;omega
  have ab:(((a.length:Nat):Int)-1).tmod 19=((m-1:Nat):Int):=by
   rw[(aa:((a.length:Nat):Int)-1=((a.length-1:Nat):Int)),show(19:Int)=((19:Nat):Int)from rfl,wU];congr 1;omega
  have a6:(19:Int)≠0:=aj;have ad:((m-1:Nat):Int)+1=(m:Int):=aa;obtain⟨t,q⟩:∃t,t=a.take m:=⟨_,rfl⟩;obtain⟨d,p⟩:∃t,t=a.drop m:=⟨_,rfl⟩;have bd:t.length=m:=by rw[q];exact gK U
  have x:a=t++d:=by rw[q,p,oC]
  have a7:d.length=a.length-m:=by rw[p,gF]
  have H:∀c∈t,dV c:=fun c u=>G c (by rw[f,x];simp[u])
  have ac:∀c∈b,dV c:=fun c u=>G c (by rw[f];simp[u])
  have t1:slice3 kg false true false [.str a,ai (m:Int)]=some (.val (.str t)):=by
   rw[CF ⟨aa,aa⟩,bN,q]
  have t2:slice3 kg true false false [.str a,ai (m:Int)]=some (.val (.str d)):=by
   rw[uP ⟨aa,aa⟩,bN,p]
  have t3:y3 [.str t]=some (.new (cn t) (.bytes t.length)):=by
   show some (bx.new (lmap _ t) (.bytes (cP t)))=_;rw[am2,gx]
  simp(disch:=first|assumption|omega)only[T6,T5,T4,go_sem,↓reduceIte,kz,r,dt,aQ,k_,ab,ad,t1,t3]
  refine af0 t H aa i.next .mg _ _ _ ?_ ?_ ?_ ?_ ?_ ?_ ?_
  iterate 5 simp only[go_sem]
  ·rw[ag.bE,ay rfl]
  intro o j ap ar;have k0:rd 0 o=.str a:=by rw[j 0 aj];simp only[go_sem,r]
  have cu:rd 3 o=v:=by rw[j 3 aj];simp only[go_sem,z]
  have am:rd 4 o=ai (m:Int):=by rw[j 4 aj];simp only[go_sem]
  clear j;have Q:=w.push (.cells (cn t) 0);have a8:=agX b ac;have Z:10^t.length≤10^19:=fN aj aa;have ae:=nr t H;have C:10^t.length<18446744073709551616:=eH Z aj;have P:dv t<18446744073709551616:=oG ae C;have O:0<10^t.length:=e8 aj;have T:eC v=some (.val (ai (((ax (dv b)).length:Nat):Int))):=by
   have:=w.len aj;rw[nM,eD]at this;exact this
  rw[fu];simp only[go_sem,T3,T2,T1,k0,cu,am,ap,t2,T];refine anf (ax (dv b)) (10^t.length) (dv t) g v (fV _) C P aa _ _ _ Q ?_ ?_ ?_ ?_ ?_ ?_ ?_
  iterate 6 simp only[go_sem,cu,ar]
  intro y M ds k B L S D I h F X;have J:rd 0 y=.str d:=(B 0 aj).trans (by simp only[go_sem]);have K:rd 3 y=v:=(B 3 aj).trans (by simp only[go_sem,cu]);rw[fT]at h;have E:dv (b++t)=dv t+dv b*10^t.length:=by rw[YX,iy]
  rw[←E]at h;have Y:5≤M.next:=by rw[X];show 5≤i.next+1;omega
  rw[fu];by_cases R:k=0
  ·subst R;rw[fe,cO]at h;have l:=arf (w:=dv b) I D (by
    rw[h,E];have:dv b*1≤dv b*10^t.length:=fc _ O;omega)
   rw[h]at l;simp(disch:=omega)only[go_sem,Gv,Gu,L,jn,decide_true];refine⟨d.length,aa,b++t,d,v,g,by rw[f,x,eG],rfl,?_,?_,by rw[←l];exact F,Y⟩
   iterate 2 simp only[go_sem,J,K]
  ·have l:ax (dv (b++t))=ds++[k]:=by
    rw[←h,←D];have e:W.val ds+18446744073709551616^ds.length*k=W.val (ds++[k]):=by rw[W.fl];simp[W.val]
    rw[e];refine agZ (I.app (.mk S W.aM.nil)) ?_;unfold W.bM;rw[List.getLast?_append];simp;omega
   simp(disch:=omega)only[go_sem,Gv,Gu,K,L,df];refine Y5 F k aa fun H4 N r1 r2 bi bj=>?_
   simp(disch:=omega)only[go_sem];refine⟨d.length,aa,b++t,d,_,N,by rw[f,x,eG],rfl,?_,rfl,?_,aa⟩
   ·simp only[go_sem,J]
   ·simp only[go_sem];rw[l];exact r1
theorem aov(s:List UInt8)(f:∀c∈s,dV c)(i:s.length≤570):bA 247 [.str s,.ak] (bz (ax (dv s))):=by
 refine cT (.cons (.str _) (.cons .ak .nil)) (dA _) (bg aln ?_);have g:aG .i64 ((0:Int)-1)= -1:=by rw[aQ _ aj];rfl
 simp only[go_sem,RU,RY,RX,g];refine bW (fun k a b=>k=0∧rd 0 a=.str s∧rd 5 a=ai (-1)) 0 ⟨rfl,?_,?_⟩ ?_
 iterate 2 simp only[go_sem]
 rintro k a b ⟨rfl,d,e⟩;unfold RV;have h:(-1:Int)<0:=aj;simp(disch:=assumption)only[go_sem,RW,d,e,dt];refine use (aou s f aa) ?_;simp only[go_sem]
theorem aow(s:List UInt8)(b:∀c∈s,dV c)(a:s.length≤570):bA 187 [.str s] (bz (ax (dv s))):=by
 refine cT (.cons (.str _) .nil) (dA _) (bg ak0 ?_);have d:¬(570:Int)<((s.length:Nat):Int):=aa;simp(disch:=assumption)only[go_sem,Qd,Qg,Qf,Qe,df];refine use (aov s b a) ?_;simp only[go_sem]
theorem B5(s:List UInt8)(b:∀c∈s,dV c)(a:s.length≤570):bA 122 [.str s] (b6 (dv s)):=by
 refine cT (.cons (.str _) .nil) (fh _) (bg akr ?_);simp only[go_sem,NH,NI];refine use (aow s b a) ?_;simp only[go_sem];rw[gR]
def Mr:ah:=aB [af 17 0,ex 18 (bs .add (kc (.str [45])) (rd 17)),ao 2 18]
def DM:ah:=.seq (.block 0 (an [af 4 0,ex 5 (bs .eql (rd 4) (kc (.str [48]))),af 6 5,bG 6 false 7 0,aN 6 false 8 (bF 72 [(rd 7)]),aN 6 false 9 (not (rd 8)),en 10 6 9,ao 3 10] (bl 3 (aB [aP 2 (.str [48])]) (an [af 12 0,ex 13 (g9 (rd 12) (kc (ai 0))),bR 14 .eql 13 .u8 45,ao 11 14] (bl 11 (aB [af 15 0,ex 16 (lJ true false false [(rd 15),(kc (ai 1))]),ao 2 16]) .skip))))) Mr
def DL:ah:=an [aP 2 (.str [])] DM
theorem aj9:aZ Tryz.f100 100 DL [.tmp 2]:=bh
def MI:ah:=aB [aL 28 2 7,aL 29 2 9,aF 2 4 28,cQ 29 2 9,aF 2 5 29,aP 6 cC]
def DT:ah:=bm [af 24 8,fL 25 24] 25 (aB [ex 26 (cD [] [(ai 0),(ai 0)] []),ex 27 (cD [] [(ai 0),(ai 0)] []),aF 2 4 26,aF 2 5 27,aP 6 aq]) MI
def MJ:ah:=an [af 20 1,bk 21 120 20,af 19 21,bn 22 0 19,bn 23 1 19,ex 9 (alloc [(ai 0),(ai 0)]),aF 2 9 22,ao 8 23] DT
def DU:ah:=bm [af 15 8,fL 16 15] 16 (aB [ex 17 (cD [] [(ai 0),(ai 0)] []),ex 18 (cD [] [(ai 0),(ai 0)] []),aF 2 4 17,aF 2 5 18,aP 6 aq]) MJ
def MK:ah:=an [af 11 0,bk 12 120 11,af 10 12,bn 13 0 10,bn 14 1 10,ex 7 (alloc [(ai 0),(ai 0)]),aF 2 7 13,ao 8 14] DU
def MH:ah:=an [ex 4 (alloc [(ai 0),(ai 0)]),ex 5 (alloc [(ai 0),(ai 0)]),aP 6 aq] MK
theorem akb:aZ Tryz.f104 104 MH [.cell 4 true 2,.cell 5 true 2,.tmp 6]:=bh
def ML:ah:=aB [af 38 7,af 39 1,ex 40 (bF 162 [(rd 38),(rd 39),(kc (ai 10))]),ex 41 (tL (rd 40)),ao 4 41]
def MM:ah:=an [af 35 7,ex 36 (cW 1 [(0,1)] [(.int .u8 0)] [(kc (.int .u8 47))]),eo 37 1 1 35 36,ao 7 37] ML
def MN:ah:=an [ex 32 (mY 48 1 false true false [(rd 6),(kc (ai 0))]),af 33 0,ex 34 (bF 162 [(rd 32),(rd 33),(kc (ai 10))]),ao 7 34] MM
def MO:ah:=an [ex 6 (alloc [(.int .u8 0),(.int .u8 0),(.int .u8 0),(.int .u8 0),(.int .u8 0),(.int .u8 0),(.int .u8 0),(.int .u8 0),(.int .u8 0),(.int .u8 0),(.int .u8 0),(.int .u8 0),(.int .u8 0),(.int .u8 0),(.int .u8 0),(.int .u8 0),(.int .u8 0),(.int .u8 0),(.int .u8 0),(.int .u8 0),(.int .u8 0),(.int .u8 0),(.int .u8 0),(.int .u8 0),(.int .u8 0),(.int .u8 0),(.int .u8 0),(.int .u8 0),(.int .u8 0),(.int .u8 0),(.int .u8 0),(.int .u8 0),(.int .u8 0),(.int .u8 0),(.int .u8 0),(.int .u8 0),(.int .u8 0),(.int .u8 0),(.int .u8 0),(.int .u8 0),(.int .u8 0),(.int .u8 0),(.int .u8 0),(.int .u8 0),(.int .u8 0),(.int .u8 0),(.int .u8 0),(.int .u8 0)])] MN
def zB:ah:=bm [af 28 1,bH 29 .eql 28 1] 29 (aB [af 30 0,ex 31 (bF 161 [(rd 30),(kc (ai 10))]),ao 4 31]) MO
def DW:ah:=bm [af 14 1,bH 15 .neq 14 1] 15 (an [af 16 0,af 17 0,ex 18 (neg (rd 17)),ex 19 (mx [(rd 16),(rd 18)]),af 20 1,bf 21 160 19 20,ao 5 21] (.aH [af 22 0,af 23 5,bD 24 .quo 22 23,af 25 1,af 26 5,bD 27 .quo 25 26,ao 0 24,ao 1 27])) zB
def DX:ah:=bm [af 8 1,bH 9 .lss 8 0] 9 (.aH [af 10 0,ex 11 (neg (rd 10)),af 12 1,ex 13 (neg (rd 12)),ao 0 11,ao 1 13]) DW
def DV:ah:=an [aP 4 (.str [])] DX
theorem akc:aZ Tryz.f105 105 DV [.tmp 4]:=bh
def MQ:ah:=aB [aL 10 4 3,aF 4 2 10]
def MR:ah:=an [af 6 0,bk 7 163 6,af 5 7,bn 8 0 5,bn 9 1 5,ex 3 (alloc [aq,.ak,aq,.ak]),aF 4 3 8,ao 4 9] MQ
def MP:ah:=an [ex 2 (alloc [aq,.ak,aq,.ak])] MR
theorem akd:aZ Tryz.f106 106 MP [.cell 2 true 4]:=bh
def MT:ah:=aB [aL 5 4 2,aL 6 4 3,bk 7 164 6,cQ 5 4 2,bf 8 112 5 7,aF 4 4 8]
def MS:ah:=an [b7 2 0,b7 3 1,ex 4 (alloc [aq,.ak,aq,.ak])] MT
theorem ake:aZ Tryz.f107 107 MS [.cell 4 true 4]:=bh
def MU:ah:=aB [aA 26 2 1,aL 27 2 26,af 28 5,bf 29 169 27 28,ex 30 (tL (rd 29)),ao 2 30]
def MV:ah:=an [aA 21 0 1,aL 22 2 21,ex 23 (bF 169 [(rd 22),(kc .ak)]),ex 24 (cW 1 [(0,1)] [(.int .u8 0)] [(kc (.int .u8 47))]),eo 25 1 1 23 24,ao 5 25] MU
def DZ:ah:=bm [aA 6 2 1,aL 7 2 6,bk 8 165 7] 8 (.seq (an [aA 10 0 1,aL 11 2 10,bk 12 166 11,af 9 12,bn 13 0 9,bn 14 1 9,ao 3 13,ao 4 14] (an [af 15 4] (bl 15 (aB [af 16 3,bk 17 167 16,ao 2 17]) .skip))) (aB [aA 18 0 1,aL 19 2 18,bk 20 168 19,ao 2 20])) MV
def DY:ah:=an [b7 1 0,aP 2 (.str [])] DZ
theorem akf:aZ Tryz.f108 108 DY [.tmp 2]:=bh
def MX:ah:=aB [af 5 0,af 6 1,bf 7 170 5 6,ao 4 7]
def MW:ah:=an [bI 4 0] MX
theorem akg:aZ Tryz.f109 109 MW [.tmp 4]:=bh
def D3:ah:=aB [aA 25 0 2,aL 26 2 25,aL 27 4 3,aA 30 0 3,aL 31 2 30,aL 32 4 2,bk 28 174 27,cQ 26 2 25,cQ 31 2 30,cQ 32 4 2,bf 29 173 26 28,cQ 31 2 30,cQ 32 4 2,bk 33 174 32,cQ 31 2 30,bf 34 173 31 33,bf 35 172 29 34,ao 4 35]
def vt:ah:=bm [aA 5 2 2,aL 6 2 5,bk 7 165 6,af 8 7,c6 8 true 9 2 3,jY 8 true 10 2 9,aN 8 true 11 (bF 165 [(rd 10)]),dM 12 8 11,af 13 12,jY 13 false 14 4 2,jY 13 false 16 4 3,aN 13 false 15 (bF 171 [(rd 14)]),rg 13 false 16 (ct true 4 (rd 3)),aN 13 false 17 (bF 171 [(rd 16)]),aN 13 false 18 (bi .neq (rd 15) (rd 17)),en 19 13 18] 19 (aB [aA 20 0 2,aL 21 2 20,aA 22 0 3,aL 23 2 22,bf 24 172 21 23,ao 4 24]) D3
def vr:ah:=an [b7 2 0,b7 3 1,bI 4 0] vt
theorem akh:aZ Tryz.f110 110 vr [.tmp 4]:=bh
def D4:ah:=aB [aL 48 2 5,aL 49 2 7,aL 51 2 8,aL 52 2 6,bf 50 173 48 49,cQ 51 2 8,cQ 52 2 6,bf 53 173 51 52,bf 54 176 50 53,aF 4 4 54]
def D5:ah:=an [aA 41 0 3,aL 42 2 41,aL 43 4 2,ex 7 (alloc [aq,.ak]),ex 8 (alloc [aq,.ak]),bk 44 174 43,cQ 42 2 41,bf 45 175 42 44,af 40 45,bn 46 0 40,bn 47 1 40,aF 2 7 46,aF 2 8 47] D4
def D6:ah:=an [aA 33 0 2,aL 34 2 33,aL 35 4 3,ex 5 (alloc [aq,.ak]),ex 6 (alloc [aq,.ak]),bk 36 174 35,cQ 34 2 33,bf 37 175 34 36,af 32 37,bn 38 0 32,bn 39 1 32,aF 2 5 38,aF 2 6 39] D5
def zC:ah:=bm [aA 18 2 2,aL 19 2 18,bk 20 165 19,af 21 20,c6 21 true 22 2 3,jY 21 true 23 2 22,aN 21 true 24 (bF 165 [(rd 23)]),dM 25 21 24] 25 (aB [aA 26 0 2,aL 27 2 26,aA 28 0 3,aL 29 2 28,bf 30 173 27 29,ex 31 (cD [(0,2)] [aq,.ak,aq,.ak] [(rd 30)]),aF 4 4 31]) D6
def vv:ah:=bm [aA 9 0 2,aL 10 2 9,bk 11 165 10,af 12 11,c6 12 false 13 0 3,jY 12 false 14 2 13,aN 12 false 15 (bF 165 [(rd 14)]),en 16 12 15] 16 (aB [ex 17 (cD [] [aq,.ak,aq,.ak] []),aF 4 4 17]) zC
def vu:ah:=an [b7 2 0,b7 3 1,ex 4 (alloc [aq,.ak,aq,.ak])] vv
theorem aki:aZ Tryz.f111 111 vu [.cell 4 true 4]:=bh
def MY:ah:=aB [aL 92 2 8,aL 93 2 9,aL 95 2 7,aA 96 2 3,aL 97 2 96,aL 98 2 9,bf 94 178 92 93,cQ 95 2 7,cQ 97 2 96,cQ 98 2 9,bf 99 178 97 98,cQ 95 2 7,bf 100 173 95 99,bf 101 176 94 100,aF 4 4 101]
def MZ:ah:=an [aL 89 2 8,aL 90 2 5,bf 91 123 89 90,ex 9 (alloc [aq,.ak]),aF 2 9 91] MY
def D7:ah:=bm [aL 80 2 5,bk 81 124 80] 81 (aB [aL 82 2 8,aA 83 2 2,aL 84 2 83,aA 85 2 3,aL 86 2 85,bf 87 173 84 86,cQ 82 2 8,bf 88 176 82 87,aF 4 4 88]) MZ
def M0:ah:=bm [aL 77 2 8,bk 78 165 77] 78 (aB [ex 79 (cD [] [aq,.ak,aq,.ak] []),aF 4 4 79]) D7
def M1:ah:=an [aA 68 0 2,aL 69 2 68,aL 70 2 6,aA 72 0 3,aL 73 2 72,aL 74 2 7,ex 8 (alloc [aq,.ak]),bf 71 173 69 70,cQ 73 2 72,cQ 74 2 7,bf 75 173 73 74,bf 76 177 71 75,aF 2 8 76] M0
def M3:ah:=an [aA 60 2 3,aL 61 2 60,aL 62 2 5,aA 64 2 2,aL 65 2 64,aL 66 2 5,ex 6 (alloc [aq,.ak]),ex 7 (alloc [aq,.ak]),bf 63 178 61 62,cQ 65 2 64,cQ 66 2 5,bf 67 178 65 66,aF 2 6 63,aF 2 7 67] M1
def M4:ah:=an [aA 55 2 2,aL 56 2 55,aA 57 2 3,aL 58 2 57,bf 59 123 56 58,ex 5 (alloc [aq,.ak]),aF 2 5 59] M3
def xF:ah:=.seq (.block 0 (an [aA 11 2 2,aL 12 2 11,bk 13 165 12,af 14 13,c6 14 true 15 2 3,jY 14 true 16 2 15,aN 14 true 17 (bF 165 [(rd 16)]),dM 18 14 17,ao 10 18] (bl 10 (aB [aA 19 0 2,aL 20 2 19,aA 21 0 3,aL 22 2 21,bf 23 177 20 22,ex 24 (cD [(0,2)] [aq,.ak,aq,.ak] [(rd 23)]),aF 4 4 24]) (an [aA 26 2 2,aL 27 2 26,bk 28 165 27,ao 25 28] (bl 25 (aB [aA 29 0 2,aL 30 2 29,aA 31 2 3,aL 32 2 31,aA 34 0 3,aL 35 2 34,aA 37 2 3,aL 38 2 37,bf 33 173 30 32,cQ 35 2 34,cQ 38 2 37,bf 36 177 33 35,cQ 38 2 37,ex 39 (cD [(0,2),(2,2)] [aq,.ak,aq,.ak] [(rd 36),(rd 38)]),aF 4 4 39]) (an [aA 41 2 3,aL 42 2 41,bk 43 165 42,ao 40 43] (bl 40 (aB [aA 44 0 3,aL 45 2 44,aA 46 2 2,aL 47 2 46,aA 49 0 2,aL 50 2 49,aA 52 2 2,aL 53 2 52,bf 48 173 45 47,cQ 50 2 49,cQ 53 2 52,bf 51 177 48 50,cQ 53 2 52,ex 54 (cD [(0,2),(2,2)] [aq,.ak,aq,.ak] [(rd 51),(rd 53)]),aF 4 4 54]) .skip))))))) M4
def xE:ah:=an [b7 2 0,b7 3 1,ex 4 (alloc [aq,.ak,aq,.ak])] xF
theorem akj:aZ Tryz.f112 112 xE [.cell 4 true 4]:=bh
def xG:ah:=aB [aL 55 2 6,aF 2 2 55,aP 3 cC]
def xH:ah:=bm [aA 49 0 4,aC 50 49] 50 (.aH [aA 51 0 6,aC 52 51,ex 53 (neg (rd 52)),aA 54 0 6,aF 1 54 53]) xG
def zD:ah:=bm [aA 35 2 4,aC 36 35,ex 37 (bs .neq (rd 36) (kc (.str [])))] 37 (an [aA 38 2 4,aC 39 38,bk 40 184 39,aA 41 1 6,aF 1 41 40] (an [aA 42 0 6,aC 43 42,aA 44 1 6,aC 45 44,bf 46 160 43 45,bH 47 .neq 46 1] (bl 47 (aB [ex 48 (cD [] [(ai 0),(ai 0)] []),aF 2 2 48,aP 3 aq]) .skip))) xH
def Ny:ah:=an [aA 31 1 4,aC 32 31,bk 33 184 32,ex 34 (cD [(0,1),(1,1)] [(ai 0),(ai 0)] [(rd 33),(kc (ai 1))]),ex 6 (alloc [(ai 0),(ai 0)]),aF 2 6 34] zD
def xI:ah:=bm [af 16 5,fL 17 16,af 18 17,c6 18 false 19 1 4,c9 18 false 20 19,aN 18 false 21 (iF (rd 20)),ef 18 false 22 .gtr 21 9,en 23 18 22,af 24 23,c6 24 false 25 2 4,c9 24 false 26 25,aN 24 false 27 (iF (rd 26)),ef 24 false 28 .gtr 27 9,en 29 24 28] 29 (aB [ex 30 (cD [] [(ai 0),(ai 0)] []),aF 2 2 30,aP 3 aq]) Ny
def Nz:ah:=an [af 12 0,bk 13 121 12,af 11 13,bn 14 0 11,bn 15 1 11,ex 4 (alloc [aq,(.str []),(.str [])]),aF 3 4 14,ao 5 15] xI
def Ed:ah:=bm [af 7 0,ex 8 (iF (rd 7)),bH 9 .gtr 8 20] 9 (aB [ex 10 (cD [] [(ai 0),(ai 0)] []),aF 2 2 10,aP 3 aq]) Nz
def Ec:ah:=an [ex 2 (alloc [(ai 0),(ai 0)]),aP 3 aq] Ed
theorem akp:aZ Tryz.f120 120 Ec [.cell 2 true 2,.tmp 3]:=bh
def OP:ah:=.block 1 (.aH [af 7 1,af 8 0,af 9 1,bD 10 .rem 8 9,ao 0 7,ao 1 10])
def OQ:ah:=.seq (an [af 5 1,bH 6 .neq 5 0] (bl 6 .skip (.exit 0))) OP
def OR:ah:=aB [af 11 0,ao 4 11]
def OS:ah:=.seq (.block 0 (.loop OQ)) OR
def OO:ah:=an [bI 4 0] OS
theorem akF:aZ Tryz.f160 160 OO [.tmp 4]:=bh
def O4:ah:=aB [aA 3 0 1,aL 4 2 3,aA 6 2 1,aL 7 2 6,bk 5 231 4,cQ 7 2 6,ex 8 (cD [(0,2),(2,2)] [aq,.ak,aq,.ak] [(rd 5),(rd 7)]),aF 4 2 8]
def O3:ah:=an [b7 1 0,ex 2 (alloc [aq,.ak,aq,.ak])] O4
theorem akH:aZ Tryz.f164 164 O3 [.cell 2 true 4]:=bh
def O8:ah:=aB [af 3 0,ex 4 (bF 161 [(rd 3),(kc (ai 10))]),ao 2 4]
def O7:ah:=an [aP 2 (.str [])] O8
theorem akK:aZ Tryz.f167 167 O7 [.tmp 2]:=bh
def Po:ah:=aB [aA 3 0 1,aL 4 2 3,bk 5 234 4,ao 2 5]
def Pn:ah:=an [b7 1 0,bI 2 0] Po
theorem akM:aZ Tryz.f171 171 Pn [.tmp 2]:=bh
def Pt:ah:=aB [aA 7 2 1,aL 8 2 7,aF 2 2 8]
def ES:ah:=bm [aA 3 2 1,aL 4 2 3,bk 5 165 4] 5 (aB [ex 6 (bF 238 [(kc (ai 1))]),aF 2 2 6]) Pt
def ER:ah:=an [b7 1 0,ex 2 (alloc [aq,.ak])] ES
theorem akP:aZ Tryz.f174 174 ER [.cell 2 true 2]:=bh
def Pu:ah:=aB [aL 14 2 2,aL 15 2 6,aL 17 2 3,aL 18 2 6,bf 16 178 14 15,cQ 17 2 3,cQ 18 2 6,bf 19 178 17 18,aF 2 4 16,aF 2 5 19]
def Pv:ah:=an [aL 11 2 2,aL 12 2 3,bf 13 123 11 12,ex 6 (alloc [aq,.ak]),aF 2 6 13] Pu
def EU:ah:=bm [aL 7 2 3,bk 8 124 7] 8 (aB [aL 9 2 2,aL 10 2 3,aF 2 4 9,cQ 10 2 3,aF 2 5 10]) Pv
def ET:ah:=an [b7 2 0,b7 3 1,ex 4 (alloc [aq,.ak]),ex 5 (alloc [aq,.ak])] EU
theorem akQ:aZ Tryz.f175 175 ET [.cell 4 true 2,.cell 5 true 2]:=bh
def Pw:ah:=aB [aL 9 2 2,aL 10 2 3,ex 11 (cD [(0,2),(2,2)] [aq,.ak,aq,.ak] [(rd 9),(rd 10)]),aF 4 4 11]
def EW:ah:=bm [aL 5 2 3,bk 6 124 5] 6 (aB [aL 7 2 2,ex 8 (cD [(0,2)] [aq,.ak,aq,.ak] [(rd 7)]),aF 4 4 8]) Pw
def EV:ah:=an [b7 2 0,b7 3 1,ex 4 (alloc [aq,.ak,aq,.ak])] EW
theorem akR:aZ Tryz.f176 176 EV [.cell 4 true 4]:=bh
def PZ:ah:=.aH [b9 18 7 1,af 7 18]
def P2:ah:=.seq (.block 1 (an [af 9 7,ao 4 9] (.aH [af 10 3,ex 11 (bi .mul (kc (ai 10)) (rd 10)),af 12 0,af 13 4,ex 14 (g9 (rd 12) (rd 13)),bR 15 .sub 14 .u8 48,c7 16 .i64 15,cU 17 11 16,ao 3 17]))) PZ
def E6:ah:=.seq (bl 8 .skip (.exit 0)) P2
def P3:ah:=an [cw 8 7 6] E6
def P4:ah:=aB [af 19 3,ao 2 19]
def P5:ah:=.seq (an [af 5 0,ex 6 (iF (rd 5)),eL 7 (ai 0)] (.block 0 (.loop P3))) P4
def P6:ah:=an [bI 3 0] P5
def PY:ah:=an [bI 2 0] P6
theorem akX:aZ Tryz.f184 184 PY [.tmp 2]:=bh
def WL:ah:=aB [af 33 0,bk 34 106 33,af 35 1,bk 36 106 35,bf 37 107 34 36,bk 38 108 37,ao 4 38]
def WM:ah:=.seq (an [af 9 0,af 10 1,bf 11 104 9 10,af 8 11,bn 12 0 8,bn 13 1 8,bn 14 2 8,ex 5 (alloc [(ai 0),(ai 0)]),ex 6 (alloc [(ai 0),(ai 0)]),aF 2 5 12,aF 2 6 13,ao 7 14] (an [af 15 7] (bl 15 (aB [aA 16 0 5,aC 17 16,aA 18 1 6,aC 19 18,bD 20 .mul 17 19,aA 21 0 6,aC 22 21,aA 23 1 5,aC 24 23,bD 25 .mul 22 24,bD 26 .sub 20 25,aA 27 1 5,aC 28 27,aA 29 1 6,aC 30 29,bD 31 .mul 28 30,bf 32 105 26 31,ao 4 32]) .skip))) WL
def WK:ah:=an [aP 4 (.str [])] WM
theorem ama:aZ Tryz.f56 56 WK [.tmp 4]:=bh
def WO:ah:=aB [af 27 0,bk 28 106 27,af 29 1,bk 30 106 29,bf 31 110 28 30,ao 4 31]
def WQ:ah:=.seq (an [af 9 0,af 10 1,bf 11 104 9 10,af 8 11,bn 12 0 8,bn 13 1 8,bn 14 2 8,ex 5 (alloc [(ai 0),(ai 0)]),ex 6 (alloc [(ai 0),(ai 0)]),aF 2 5 12,aF 2 6 13,ao 7 14] (an [af 15 7] (bl 15 (aB [aA 16 0 5,aC 17 16,aA 18 1 6,aC 19 18,bD 20 .mul 17 19,aA 21 0 6,aC 22 21,aA 23 1 5,aC 24 23,bD 25 .mul 22 24,bf 26 109 20 25,ao 4 26]) .skip))) WO
def WN:ah:=an [bI 4 0] WQ
theorem amb:aZ Tryz.f57 57 WN [.tmp 4]:=bh
def WS:ah:=aB [af 27 0,bk 28 106 27,af 29 1,bk 30 106 29,bf 31 111 28 30,bk 32 108 31,ao 4 32]
def WT:ah:=.seq (an [af 9 0,af 10 1,bf 11 104 9 10,af 8 11,bn 12 0 8,bn 13 1 8,bn 14 2 8,ex 5 (alloc [(ai 0),(ai 0)]),ex 6 (alloc [(ai 0),(ai 0)]),aF 2 5 12,aF 2 6 13,ao 7 14] (an [af 15 7] (bl 15 (aB [aA 16 0 5,aC 17 16,aA 18 0 6,aC 19 18,bD 20 .mul 17 19,aA 21 1 5,aC 22 21,aA 23 1 6,aC 24 23,bD 25 .mul 22 24,bf 26 105 20 25,ao 4 26]) .skip))) WS
def WR:ah:=an [aP 4 (.str [])] WT
theorem amc:aZ Tryz.f58 58 WR [.tmp 4]:=bh
def WV:ah:=aB [af 33 0,bk 34 106 33,af 35 1,bk 36 106 35,bf 37 112 34 36,bk 38 108 37,ao 4 38]
def WW:ah:=.seq (an [af 9 0,af 10 1,bf 11 104 9 10,af 8 11,bn 12 0 8,bn 13 1 8,bn 14 2 8,ex 5 (alloc [(ai 0),(ai 0)]),ex 6 (alloc [(ai 0),(ai 0)]),aF 2 5 12,aF 2 6 13,ao 7 14] (an [af 15 7] (bl 15 (aB [aA 16 0 5,aC 17 16,aA 18 1 6,aC 19 18,bD 20 .mul 17 19,aA 21 0 6,aC 22 21,aA 23 1 5,aC 24 23,bD 25 .mul 22 24,cU 26 20 25,aA 27 1 5,aC 28 27,aA 29 1 6,aC 30 29,bD 31 .mul 28 30,bf 32 105 26 31,ao 4 32]) .skip))) WV
def WU:ah:=an [aP 4 (.str [])] WW
theorem amd:aZ Tryz.f59 59 WU [.tmp 4]:=bh
def XH:ah:=aB [aA 26 1 5,aC 27 26,aA 29 2 5,aC 30 29,bk 28 122 27,ey 30 29,bk 31 122 30,bf 32 123 28 31,bk 33 124 32,ao 2 33]
def A0:ah:=bm [af 18 6,fL 19 18,af 20 19,c6 20 false 21 2 5,c9 20 false 22 21,aN 20 false 23 (bs .eql (rd 22) (kc (.str []))),en 24 20 23] 24 (aB [af 25 6,ao 2 25]) XH
def XI:ah:=an [af 14 0,bk 15 121 14,af 13 15,bn 16 0 13,bn 17 1 13,ex 5 (alloc [aq,(.str []),(.str [])]),aF 3 5 16,ao 6 17] A0
def XJ:ah:=.seq (an [af 8 0,bk 9 120 8,af 7 9,bn 10 0 7,bn 11 1 7,ex 3 (alloc [(ai 0),(ai 0)]),aF 2 3 10,ao 4 11] (an [af 12 4] (bl 12 (aB [aP 2 cC]) .skip))) XI
def XG:ah:=an [aP 2 aq] XJ
theorem aml:aZ Tryz.f72 72 XG [.tmp 2]:=bh
theorem abE(q:Rat):bA 171 [cN q] (ai q.num.sign):=by
 refine cT (.cons (h_ _) .nil) (.int _ _) (bg akM ?_);have h:=ar8 q.num;unfold b6 c5 at h;simp only[go_sem,Pn,Po,cN,cm];refine use h ?_;simp only[go_sem]
theorem B_(q:Rat):bA 174 [cN q] (b6 (q.den:Int)):=by
 refine e3 (.cons (h_ _) .nil) (bg akP ?_);have a:=v7 ((dd q:Nat):Int);rw[gR]at a;have d:=arW 1 aj;by_cases b:q.den=1
 ·rw[bw (by rw[lZ b];rfl)]at a;simp only[go_sem,ER,ES,cN,cm];refine use a ?_;simp only[go_sem];refine use d ?_;simp only[go_sem,b6,c5];exact g8 (by rw[b];rfl) (fh _)
 ·have c:dd q=q.den:=au b;rw[bp (by rw[c];have:=q.den_nz;omega)]at a;simp only[go_sem,ER,ES,Pt,cN,cm];refine use a ?_;simp only[go_sem];exact g8 (by rw[c,gR]) (fh _)
theorem ap9(n:Int)(d:a≠0):ig (mkRat n a)=eX n 0:=by
 have i:0<cx n.natAbs a:=Nat.gcd_pos_of_pos_right _ (jP d);obtain⟨t,b⟩:∃t,n=(cx n.natAbs a:Int)*t:=by
  have e:((cx n.natAbs a:Nat):Int)∣n:=Int.ofNat_dvd_left.2 (Nat.gcd_dvd_left _ _);exact e
 have f:(mkRat n a).num=t:=by
  rw[wq _ d];generalize cx n.natAbs a=g at*
  rw[b];exact Int.mul_tdiv_cancel_left _ aa
 unfold ig eX;rw[f];generalize cx n.natAbs a=g at*
 have c:(0:Int)<(g:Int):=aa;rcases Int.lt_trichotomy t 0 with h|h|h
 ·have:n<0:=by rw[b];exact Int.mul_neg_of_pos_of_neg c h
  rw[ay h,ay this]
 ·subst h;rw[Int.mul_zero]at b;subst b;rfl
 ·have:0<n:=by rw[b];exact Int.mul_pos c h
  rw[au aa,au aa,au aa,ay this]
theorem af9(a b:Int):eX (a-b) 0=eX a b:=by
 unfold eX;split<;>split<;>(try split)<;>(try split)<;>omega
theorem aco(p q:Rat):ig (p-q)=eX (p.num*q.den) (q.num*p.den):=by
 rw[Rat.sub_eq_add_neg,vm,Rat.neg_den,Rat.neg_num,ap9 _ (tf p.den_nz q.den_nz),Int.neg_mul,←Int.sub_eq_add_neg];exact af9 _ _
theorem Yy{b:Int}(i:0<a)(j:0<g)(h:r.sign≠b.sign):eX (r*a) (b*g)=eX r b:=by
 have c:(0:Int)<a:=aa;have d:(0:Int)<g:=aa;rcases Int.lt_trichotomy r 0 with ha|ha|ha<;>rcases Int.lt_trichotomy b 0 with hb|hb|hb
 ·exact absurd (by rw[Int.sign_eq_neg_one_of_neg ha,Int.sign_eq_neg_one_of_neg hb]) h
 ·subst hb;have:=Int.mul_neg_of_neg_of_pos ha c;rw[Int.zero_mul,mK this,mK ha]
 ·have e:=Int.mul_neg_of_neg_of_pos ha c;have f:=Int.mul_pos hb d;rw[mK aa,mK aa]
 ·subst ha;have:=Int.mul_neg_of_neg_of_pos hb d;rw[Int.zero_mul,mJ this,mJ hb]
 ·subst ha hb;exact absurd rfl h
 ·subst ha;have:=Int.mul_pos hb d;rw[Int.zero_mul,mK this,mK hb]
 ·have e:=Int.mul_pos ha c;have f:=Int.mul_neg_of_neg_of_pos hb d;rw[mJ aa,mJ aa]
 ·subst hb;have:=Int.mul_pos ha c;rw[Int.zero_mul,mJ this,mJ ha]
 ·exact absurd (by rw[Int.sign_eq_one_of_pos ha,Int.sign_eq_one_of_pos hb]) h
theorem tM(q:Rat):bA 165 [.agg [aq,bz (ax (dd q))]] (.bool (decide (q.den=1))):=by
 have a:=v7 ((dd q:Nat):Int);rw[gR]at a;have:decide (((dd q:Nat):Int)=0)=decide (q.den=1):=by
  refine decide_eq_decide.2 ?_;have:=q.den_nz;unfold dd;split
  ·rename_i h;exact⟨fun _=>h,fun _=>rfl⟩
  ·rename_i h;exact⟨fun e=>absurd e aa,fun e=>absurd e h⟩
 rw[←this];exact a
end Go.Proofs.YtddhncjmaahodaaGreatDoor
namespace Go.aV
open Go.Proofs.YtddhncjmaahodaaGreatDoor
variable{a:Nat}{y:Rat}
theorem bB.iM(h:bB a y):dU a y.num:=h.num
theorem bB.kF(h:bB a y):dU a (y.den:Int):=dU.nat h.den
end Go.aV
namespace Go.Proofs.YtddhncjmaahodaaGreatDoor
open Go.aE Go.aV
variable{a:Nat}{g:Nat}
theorem ao1(p q:Rat)(f:bB a p)(i:bB g q)(w:a+g≤2400):bA 110 [cN p,cN q] (ai (ig (p-q))):=by
 have m:=adp p.num q.num (by have:=f.iM.len (k:=100) aa;omega) (by have:=i.iM.len (k:=100) aa;omega);have o:=pD p.num q.den (by have:=f.iM.len (k:=39) aa;omega) (by have:=i.kF.len (k:=39) aa;omega);have r:=pD q.num p.den (by have:=i.iM.len (k:=39) aa;omega) (by have:=f.kF.len (k:=39) aa;omega);have n:=adp (p.num*q.den) (q.num*p.den) (by have:=(f.iM.mul i.kF (aR _)).len (k:=100) aa;omega) (by have:=(i.iM.mul f.kF (aR _)).len (k:=100) aa;omega);refine cT (.cons (h_ _) (.cons (h_ _) .nil)) (.int _ _) (bg akh ?_);rw[aco];have b:=tM p;have e:=tM q;have j:=abE p;have k:=abE q;have dp:=B_ p;have l:=B_ q;unfold b6 c5 at m o r n dp l;unfold cN cm at j k dp l;have t:=jP p.den_nz;have u:=jP q.den_nz;have short:eX p.num q.num=eX (p.num*q.den) (q.num*p.den)→True:=fun _=>trivial
 by_cases d:p.den=1∧q.den=1
 ·rw[bw d.1]at b;rw[bw d.2]at e;simp only[go_sem,vr,vt,cN,cm];refine use b ?_;simp only[go_sem];refine use e ?_;simp only[go_sem];refine use m ?_;simp only[go_sem];rw[d.1,d.2];simp
 ·by_cases v:p.num.sign=q.num.sign
  ·by_cases c:p.den=1
   ·have s:¬q.den=1:=fun h=>d ⟨c,h⟩
    rw[bw c]at b;rw[bp s]at e;simp only[go_sem,vr,vt,cN,cm];refine use b ?_;simp only[go_sem];refine use e ?_;simp only[go_sem];refine use j ?_;simp only[go_sem,true_and];refine use k ?_;simp(disch:=assumption)only[go_sem,D3,dt];refine use l ?_;simp only[go_sem,true_and];refine use o ?_;simp only[go_sem,true_and];refine use dp ?_;simp only[go_sem,true_and];refine use r ?_;simp only[go_sem];refine use n ?_;simp only[go_sem]
   ·rw[bp c]at b;simp only[go_sem,vr,vt,cN,cm];refine use b ?_;simp only[go_sem];refine use j ?_;simp only[go_sem,true_and];refine use k ?_;simp(disch:=assumption)only[go_sem,D3,dt];refine use l ?_;simp only[go_sem,true_and];refine use o ?_;simp only[go_sem,true_and];refine use dp ?_;simp only[go_sem,true_and];refine use r ?_;simp only[go_sem];refine use n ?_;simp only[go_sem]
  ·by_cases c:p.den=1
   ·have s:¬q.den=1:=fun h=>d ⟨c,h⟩
    rw[bw c]at b;rw[bp s]at e;simp only[go_sem,vr,vt,cN,cm];refine use b ?_;simp only[go_sem];refine use e ?_;simp only[go_sem];refine use j ?_;simp only[go_sem,true_and];refine use k ?_;simp(disch:=assumption)only[go_sem,df];refine use m ?_;simp only[go_sem];rw[Yy u t v]
   ·rw[bp c]at b;simp only[go_sem,vr,vt,cN,cm];refine use b ?_;simp only[go_sem];refine use j ?_;simp only[go_sem,true_and];refine use k ?_;simp(disch:=assumption)only[go_sem,df];refine use m ?_;simp only[go_sem];rw[Yy u t v]
end Go.Proofs.YtddhncjmaahodaaGreatDoor
namespace Go.aV
theorem J3(p q:Rat)(h:p.den.gcd q.den=1):(p+q).num=p.num*q.den+q.num*p.den∧(p+q).den=p.den*q.den:=by
 show(Rat.add p q).num=_∧(Rat.add p q).den=_;unfold Rat.add;simp only[h,dite_true,and_self]
theorem ao7(p q:Rat)(h:p.den.gcd q.den≠1)(n:Int)(c:n=p.num*((q.den/p.den.gcd q.den:Nat):Int)+q.num*((p.den/p.den.gcd q.den:Nat):Int))(g:Nat)(b:g=n.natAbs.gcd (p.den.gcd q.den)):(p+q).num=n.tdiv g∧(p+q).den=p.den/p.den.gcd q.den*q.den/g:=by
 subst c b;show(Rat.add p q).num=_∧(Rat.add p q).den=_;unfold Rat.add;simp only[h,dite_false];unfold Rat.maybeNormalize;split
 ·rename_i a;simp only[a];simp
 ·simp only[Int.divExact_eq_tdiv,Nat.divExact_eq_div,and_self]
theorem apM(p q:Rat):(p*q).num=p.num.tdiv (p.num.natAbs.gcd q.den:Nat)*q.num.tdiv (q.num.natAbs.gcd p.den:Nat)∧(p*q).den=p.den/(q.num.natAbs.gcd p.den)*(q.den/(p.num.natAbs.gcd q.den)):=by
 show(Rat.mul p q).num=_∧(Rat.mul p q).den=_;unfold Rat.mul;simp only[Int.divExact_eq_tdiv,Nat.divExact_eq_div,and_self]
variable{y:Rat}
theorem J4(h:y.num=0):y=0:=Rat.num_eq_zero.1 h
end Go.aV
namespace Go.Proofs.YtddhncjmaahodaaGreatDoor
open Go.aE Go.aV
variable{c:ag}
theorem cl(h:GT c:=by repeat (first|exact gv|refine GT.set ?_ (Nat.le_of_ble_eq_true rfl) _|refine GT.push ?_ (Nat.le_of_ble_eq_true rfl) _)):GT c:=h
theorem ao3(q:Rat):bA 164 [cN q] (cN (-q)):=by
 refine e3 (.cons (h_ _) .nil) (bg akH ?_);have h:=adr q.num;unfold b6 c5 at h;simp only[go_sem,O3,O4,cN,cm];refine use h ?_;simp only[go_sem,true_and];refine g8 ?_ (h_ _);have a:dd (-q)=dd q:=by unfold dd;rw[Rat.neg_den]
 rw[Rat.neg_num,a]
variable{y:Rat}
theorem ah'(a:y.den=1):∃u,cr c (ag.zero c.next) (.agg [.bool (decide (y.num<0)),bz (ax y.num.natAbs),aq,.ak]) u∧bZ u∧u=cN y:=by
 refine⟨_,.agg (.cons (.same _) (.cons (.same _) (.cons (.same _) (.cons .fQ .nil)))),?_⟩;have e:V.row 0 []=bz (ax (dd y)):=by rw[lZ a,js];rfl
 rw[e];exact⟨h_ y,rfl⟩
theorem ZM(b:GT c)(a:y.den=1):GT c∧∃u,cr c (dG.lW c.next) (.agg [.bool (decide (y.num<0)),bz (ax y.num.natAbs),aq,.ak]) u∧bZ u∧u=cN y:=by
 refine⟨b,_,.agg (.cons (.same _) (.cons (.same _) (.cons (.same _) (.cons .fQ .nil)))),?_⟩;have e:V.row 0 []=bz (ax (dd y)):=by rw[lZ a,js];rfl
 rw[e];exact⟨h_ y,rfl⟩
theorem Bw(b:GT c)(a:y=0):GT c∧∃u,cr c (dG.lW c.next) (.agg [aq,.ak,aq,.ak]) u∧bZ u∧u=cN y:=by
 subst a;refine⟨b,_,.agg (.cons (.same _) (.cons .fQ (.cons (.same _) (.cons .fQ .nil)))),?_⟩;have e:V.agg [aq,.row 0 [],aq,.row 0 []]=cN 0:=by
  unfold cN cm;rw[show(0:Rat).num=0 from rfl,show dd 0=0 from rfl,Int.natAbs_zero,js];rfl
 rw[e];exact⟨h_ 0,rfl⟩
theorem J2(q:Rat):bA 176 [b6 q.num,b6 (q.den:Int)] (cN q):=by
 refine e3 (.cons (fh _) (.cons (fh _) .nil)) (bg akR ?_);have a:=xb (q.den:Int);have c:decide ((q.den:Int)=1)=decide (q.den=1):=decide_eq_decide.2 aa;rw[c]at a;unfold b6 c5 at a;by_cases b:q.den=1
 ·rw[bw b]at a;simp only[go_sem,EV,EW,b6,c5];refine use a ?_;simp only[go_sem];exact ah' b
 ·rw[bp b]at a;simp only[go_sem,EV,EW,Pw,b6,c5];refine use a ?_;simp only[go_sem];refine g8 ?_ (h_ _);unfold cN cm;rw[jh b,bp (aa:¬((q.den:Int)<0)),cV]
theorem Jw(a b:Nat):kq (a:Int) (b:Int)=((a/b:Nat):Int):=rfl
variable{a:Nat}{r:Int}{g:Nat}
theorem eT{k:Nat}(h:dU a r)(b:a≤64*k)(c:k<g):(ax r.natAbs).length<g:=eH (h.len b) c
theorem dU.tdiv{y:Int}(h:dU a r):dU a (kq r y):=by
 unfold dU at*;rw[Int.natAbs_tdiv];exact eH (g7 _ _) h
set_option maxHeartbeats 1000000 in
theorem JZ(p q:Rat){a b:Nat}(h:bB a p)(d:bB b q)(a0:a+b+1≤1900):ff 112 [cN p,cN q] (cN (p+q)):=by
 refine fK (.cons (h_ _) (.cons (h_ _) .nil)) (bg akj ?_);have j:=tM p;have o:=tM q;have aw:=p.den_nz;have ad:=q.den_nz;by_cases l:p.den=1
 ·rw[bw l]at j;have f:=pD p.num q.den (eT h.iM (k:=38) aa aj) (eT d.kF (k:=38) aa aj);have T:=CU p.num q.num (eT h.iM (k:=38) aa aj) (eT d.iM (k:=38) aa aj);have w:=CU (p.num*q.den) q.num (eT (h.iM.mul d.kF (aR _)) (k:=38) aa aj) (eT d.iM (k:=38) aa aj);have m:p.den.gcd q.den=1:=by rw[l];exact Nat.gcd_one_left _
  obtain⟨i,e⟩:=J3 p q m;rw[l,fM]at e;rw[l,show((1:Nat):Int)=1 from rfl,Int.mul_one]at i;by_cases c:q.den=1
  ·rw[bw c]at o;rw[c,show((1:Nat):Int)=1 from rfl,Int.mul_one]at i;rw[c]at e;unfold b6 c5 at T;simp only[go_sem,xE,xF,cN,cm];refine use j ?_;simp only[go_sem];refine use o ?_;simp only[go_sem];refine use T ?_;simp only[go_sem];rw[←i];exact ZM cl e
  ·rw[bp c]at o;rw[gR,←jh c]at f;unfold b6 c5 at f w;rw[jh c]at f;simp only[go_sem,xE,xF,cN,cm];refine use j ?_;simp only[go_sem];refine use o ?_;simp only[go_sem];refine use j ?_;simp only[go_sem];rw[jh c];refine use f ?_;simp only[go_sem,true_and];refine use w ?_;simp only[go_sem,true_and];refine cX cl ?_ (h_ _);rw[i,jh (q:=p+q) (by rw[e];exact c),e]
 ·rw[bp l]at j;by_cases c:q.den=1
  ·rw[bw c]at o;have m:p.den.gcd q.den=1:=by rw[c];exact tc _
   obtain⟨i,e⟩:=J3 p q m;rw[c,dQ]at e;rw[c,show((1:Nat):Int)=1 from rfl,Int.mul_one,Int.add_comm]at i;have f:=pD q.num p.den (eT d.iM (k:=38) aa aj) (eT h.kF (k:=38) aa aj);have w:=CU (q.num*p.den) p.num (eT (d.iM.mul h.kF (aR _)) (k:=38) aa aj) (eT h.iM (k:=38) aa aj);rw[gR]at f;unfold b6 c5 at f w;simp only[go_sem,xE,xF,cN,cm];rw[jh l]at j⊢;refine use j ?_;simp only[go_sem];refine use j ?_;simp only[go_sem];refine use o ?_;simp only[go_sem];refine use f ?_;simp only[go_sem,true_and];refine use w ?_;simp only[go_sem,true_and];refine cX cl ?_ (h_ _);rw[i,jh (q:=p+q) (by rw[e];exact l),e]
  ·rw[bp c]at o;rw[jh l]at j;rw[jh c]at o;obtain⟨g,aN⟩:∃g,g=p.den.gcd q.den:=⟨_,rfl⟩;have ar:0<g:=by rw[aN];exact Nat.gcd_pos_of_pos_left _ (jP aw)
   have a2:g∣p.den:=by rw[aN];exact Nat.gcd_dvd_left _ _
   have Y:g∣q.den:=by rw[aN];exact ta _ _
   have Z:((g:Nat):Int)≠0:=aa;have M:dU b (g:Int):=dU.nat (eH (Nat.le_of_dvd (jP ad) Y) d.den);have L:=ze (p.den:Int) (q.den:Int) (eT h.kF (k:=38) aa aj) (eT d.kF (k:=38) aa aj);rw[cV,cV,←aN]at L;have D:=xd (q.den:Int) (g:Int) Z (eT d.kF (k:=38) aa aj) (eT M (k:=38) aa aj);have E:=xd (p.den:Int) (g:Int) Z (eT h.kF (k:=38) aa aj) (eT M (k:=38) aa aj);rw[Jw]at D E;obtain⟨y,B⟩:∃x,x=q.den/g:=⟨_,rfl⟩;obtain⟨s,v⟩:∃x,x=p.den/g:=⟨_,rfl⟩;rw[←B]at D;rw[←v]at E;have ab:dU b (y:Int):=dU.nat (eH (by rw[B];exact g7 _ _) d.den);have Q:dU a (s:Int):=dU.nat (eH (by rw[v];exact g7 _ _) h.den);have f:=pD p.num y (eT h.iM (k:=38) aa aj) (eT ab (k:=38) aa aj);have N:=pD q.num s (eT d.iM (k:=38) aa aj) (eT Q (k:=38) aa aj);have R:=h.iM.mul ab (aR _);have S:=d.iM.mul Q (aR _);have K:=CU (p.num*y) (q.num*s) (eT R (k:=38) aa aj) (eT S (k:=38) aa aj);have I:dU (a+b+1) (p.num*y+q.num*s):=R.add S aa aa;obtain⟨n,eP⟩:∃n,n=p.num*y+q.num*s:=⟨_,rfl⟩;rw[←eP]at K I;have U:=v7 n;have u:=xb (g:Int);have e1:decide ((g:Int)=1)=decide (g=1):=decide_eq_decide.2 aa;rw[e1]at u;rw[gR,gR,gR]at L;rw[gR,gR,gR]at D E;rw[gR]at f N u;unfold b6 c5 at f N K U;simp only[go_sem,xE,xF,cN,cm];rw[jh l,jh c];refine use j ?_;simp only[go_sem];refine use j ?_;simp only[go_sem];refine use o ?_;simp only[go_sem,M4];refine cy L cl ?_;simp only[go_sem,M3];refine use D ?_;simp only[go_sem,true_and];refine use E ?_;simp only[go_sem,M1];refine use f ?_;simp only[go_sem,true_and];refine use N ?_;simp only[go_sem];refine use K ?_;simp only[go_sem,M0];refine use U ?_;by_cases m:g=1
   ·have P:p.den.gcd q.den=1:=by rw[←aN];exact m
    obtain⟨i,e⟩:=J3 p q P;have ac:n=(p+q).num:=by
     rw[i,eP,B,v,m,nM,nM]
    by_cases t:n=0
    ·rw[bw t];simp only[go_sem];exact Bw cl (J4 (by rw[←ac];exact t))
    ·rw[bp t];rw[bw m]at u;have O:=pD (p.den:Int) (q.den:Int) (eT h.kF (k:=38) aa aj) (eT d.kF (k:=38) aa aj);rw[←e7,←e,gR p.den,gR q.den]at O;have r:=J2 (p+q);rw[←ac]at r;unfold cN cm at r;unfold b6 c5 at r O;simp only[go_sem,D7];refine use u ?_;simp only[go_sem];refine use O ?_;simp only[go_sem,true_and];refine use r ?_;simp only[go_sem];exact cX cl rfl (h_ _)
   ·have P:p.den.gcd q.den≠1:=by rw[←aN];exact m
    obtain⟨k,A⟩:∃x,x=n.natAbs.gcd g:=⟨_,rfl⟩;obtain⟨i,e⟩:=ao7 p q P n (by rw[←aN,←B,←v];exact eP) k (by rw[←aN];exact A);rw[←aN,←v]at e;by_cases t:n=0
    ·rw[bw t];simp only[go_sem];exact Bw cl (J4 (by rw[i,t,Int.zero_tdiv]))
    ·rw[bp t];rw[bp m]at u;have a1:0<k:=by rw[A];exact Nat.gcd_pos_of_pos_right _ ar
     have ap:k∣g:=by rw[A];exact ta _ _
     have W:k∣q.den:=rN ap Y;have X:((k:Nat):Int)≠0:=aa;have V:dU b (k:Int):=dU.nat (eH (Nat.le_of_dvd (jP ad) W) d.den);have C:=ze n (g:Int) (eT I (k:=38) aa aj) (eT M (k:=38) aa aj);rw[cV,←A]at C;have G:=xd n (k:Int) X (eT I (k:=38) aa aj) (eT V (k:=38) aa aj);have H:=xd (q.den:Int) (k:Int) X (eT d.kF (k:=38) aa aj) (eT V (k:=38) aa aj);rw[Jw]at H;rw[←i]at G;obtain⟨z,J⟩:∃x,x=q.den/k:=⟨_,rfl⟩;rw[←J]at H;have am:dU b (z:Int):=dU.nat (eH (by rw[J];exact g7 _ _) d.den);have F:=pD (s:Int) (z:Int) (eT Q (k:=38) aa aj) (eT am (k:=38) aa aj);have al:s*z=(p+q).den:=by rw[e,J,Nat.mul_div_assoc _ W]
     rw[←e7,al]at F;have r:=J2 (p+q);unfold cN cm at r;rw[gR,gR]at C;rw[gR]at G;rw[gR,gR,gR]at H;rw[gR s,gR z]at F;unfold b6 c5 at r F C G;simp only[go_sem,D7];refine use u ?_;simp only[go_sem,MZ];refine cy C cl ?_;simp only[go_sem,MY];refine use G ?_;simp only[go_sem,true_and];refine use H ?_;simp only[go_sem,true_and];refine use F ?_;simp only[go_sem];refine use r ?_;simp only[go_sem];exact cX cl rfl (h_ _)
theorem ao4(p q:Rat)(e:bB a p)(f:bB g q)(d:a+g+1≤1900):ff 107 [cN p,cN q] (cN (p-q)):=by
 refine fK (.cons (h_ _) (.cons (h_ _) .nil)) (bg ake ?_);have c:=ao3 q;have b:=JZ p (-q) e f.neg d;rw[←Rat.sub_eq_add_neg]at b;unfold cN cm at c b;simp only[go_sem,MS,MT,cN,cm];refine use c ?_;simp only[go_sem,true_and];refine cy b cl ?_;simp only[go_sem];exact cX cl rfl (h_ _)
theorem Yo(n:Int)(d:Nat)(k:d≠0)(o:dU a n)(e:dU g (d:Int))(s:a≤1900)(t:g≤1900):ff 175 [b6 n,b6 (d:Int)] (.aK [b6 (n.tdiv (n.natAbs.gcd d:Nat)),b6 ((d/n.natAbs.gcd d:Nat):Int)]):=by
 refine fK (.cons (fh _) (.cons (fh _) .nil)) (bg akQ ?_);have c:=xb (d:Int);have p:decide ((d:Int)=1)=decide (d=1):=decide_eq_decide.2 aa;rw[p]at c;obtain⟨b,aN⟩:∃b,b=n.natAbs.gcd d:=⟨_,rfl⟩;rw[←aN];have r:b∣d:=by rw[aN];exact ta _ _
 have u:0<b:=by rw[aN];exact Nat.gcd_pos_of_pos_right _ (jP k)
 have m:((b:Nat):Int)≠0:=aa;have l:dU g (b:Int):=by
  unfold dU at e⊢;rw[cV]at e⊢;exact eH (Nat.le_of_dvd (jP k) r) e
 have h:=ze n (d:Int) (eT o (k:=38) aa aj) (eT e (k:=38) aa aj);rw[cV,←aN]at h;have j:=xd n (b:Int) m (eT o (k:=38) aa aj) (eT l (k:=38) aa aj);have f:=xd (d:Int) (b:Int) m (eT e (k:=38) aa aj) (eT l (k:=38) aa aj);rw[Jw]at f;unfold b6 c5 at c h j f;by_cases i:d=1
 ·rw[bw i]at c;simp only[go_sem,ET,EU,b6,c5];refine use c ?_;simp only[go_sem,true_and];refine cX cl ?_ (.aK (.cons (fh _) (.cons (fh _) .nil)));have q:b=1:=by rw[aN,i];exact tc _
  rw[q,nM,show((1:Nat):Int)=1 from rfl,Int.tdiv_one]
 ·rw[bp i]at c;simp only[go_sem,ET,EU,b6,c5];refine use c ?_;simp only[go_sem,Pv];refine cy h cl ?_;simp only[go_sem,Pu];refine use j ?_;simp only[go_sem,true_and];refine use f ?_;simp only[go_sem];exact cX cl rfl (.aK (.cons (fh _) (.cons (fh _) .nil)))
set_option maxHeartbeats 1000000 in
theorem ao2(p q:Rat){a b:Nat}(g:bB a p)(i:bB b q)(I:a+b≤1900):ff 111 [cN p,cN q] (cN (p*q)):=by
 refine fK (.cons (h_ _) (.cons (h_ _) .nil)) (bg aki ?_);obtain⟨w,x⟩:=apM p q;have c:=v7 p.num;have e:=v7 q.num;have f:=tM p;have n:=tM q;have dp:=B_ p;have j:=B_ q;have o:=Yo p.num q.den q.den_nz g.iM i.kF aa aa;have r:=Yo q.num p.den p.den_nz i.iM g.kF aa aa;have z:dU a (p.num.tdiv (p.num.natAbs.gcd q.den:Nat)):=dU.tdiv g.iM;have A:dU b (q.num.tdiv (q.num.natAbs.gcd p.den:Nat)):=dU.tdiv i.iM;have B:dU a ((p.den/q.num.natAbs.gcd p.den:Nat):Int):=dU.nat (eH (g7 _ _) g.den);have C:dU b ((q.den/p.num.natAbs.gcd q.den:Nat):Int):=dU.nat (eH (g7 _ _) i.den);have l:=pD _ _ (eT z (k:=38) aa aj) (eT A (k:=38) aa aj);have m:=pD _ _ (eT B (k:=38) aa aj) (eT C (k:=38) aa aj);rw[←w]at l;rw[←e7,←x]at m;have k:=J2 (p*q);unfold b6 c5 at c e dp j o r l m k;unfold cN cm at dp j k;have y:p.num=0∨q.num=0→p*q=0:=fun h=>J4 (by
  rw[w];rcases h with h|h
  ·rw[h,Int.zero_tdiv,Int.zero_mul]
  ·rw[h,Int.zero_tdiv,Int.mul_zero])
 by_cases s:p.num=0
 ·rw[bw s]at c;simp only[go_sem,vu,vv,cN,cm];refine use c ?_;simp only[go_sem];exact Bw cl (y (.inl s))
 rw[bp s]at c;by_cases u:q.num=0
 ·rw[bw u]at e;simp only[go_sem,vu,vv,cN,cm];refine use c ?_;simp only[go_sem];refine use e ?_;simp only[go_sem];exact Bw cl (y (.inr u))
 rw[bp u]at e;by_cases d:p.den=1∧q.den=1
 ·rw[bw d.1]at f;rw[bw d.2]at n;have v:=pD p.num q.num (eT g.iM (k:=38) aa aj) (eT i.iM (k:=38) aa aj);have E:(p*q).num=p.num*q.num:=by
   rw[w,d.1,d.2,tc,tc,show((1:Nat):Int)=1 from rfl,Int.tdiv_one,Int.tdiv_one]
  have D:(p*q).den=1:=by rw[x,d.1,d.2,tc,tc]
  rw[←E]at v;unfold b6 c5 at v;simp only[go_sem,vu,vv,zC,cN,cm];refine use c ?_;simp only[go_sem];refine use e ?_;simp only[go_sem];refine use f ?_;simp only[go_sem];refine use n ?_;simp only[go_sem];refine use v ?_;simp only[go_sem];exact ZM cl D
 ·have H:∀F:Fr,True:=fun _=>trivial
  by_cases t:p.den=1
  ·have G:¬q.den=1:=fun h=>d ⟨t,h⟩
   rw[bw t]at f;rw[bp G]at n;simp only[go_sem,vu,vv,zC,cN,cm];refine use c ?_;simp only[go_sem];refine use e ?_;simp only[go_sem];refine use f ?_;simp only[go_sem];refine use n ?_;simp only[go_sem,D6];refine use j ?_;simp only[go_sem,true_and];refine cy o cl ?_;simp only[go_sem,D5];refine use dp ?_;simp only[go_sem,true_and];refine cy r cl ?_;simp only[go_sem,D4];refine use l ?_;simp only[go_sem,true_and];refine use m ?_;simp only[go_sem];refine use k ?_;simp only[go_sem];exact cX cl rfl (h_ _)
  ·rw[bp t]at f;simp only[go_sem,vu,vv,zC,cN,cm];refine use c ?_;simp only[go_sem];refine use e ?_;simp only[go_sem];refine use f ?_;simp only[go_sem,D6];refine use j ?_;simp only[go_sem,true_and];refine cy o cl ?_;simp only[go_sem,D5];refine use dp ?_;simp only[go_sem,true_and];refine cy r cl ?_;simp only[go_sem,D4];refine use l ?_;simp only[go_sem,true_and];refine use m ?_;simp only[go_sem];refine use k ?_;simp only[go_sem];exact cX cl rfl (h_ _)
theorem ac8(h:y.den=1):bS y=zt y.num:=by
 unfold bS zt;rw[ay h,fA]
theorem ac4(h:y.den≠1):bS y=zt y.num++[47]++zt (y.den:Int):=by
 have a:zt (y.den:Int)=dec y.den:=by rw[zg aa,cV]
 rw[a];unfold bS zt;rw[au h];simp
theorem ah2(z:Int)(a: -9223372036854775808≤z∧z<9223372036854775808):ff 167 [ai z] (.str (zt z)):=by
 refine fK (.cons (.int _ _) .nil) (bg akK ?_);simp only[go_sem,O7,O8];refine cy (ZB z a) gv ?_;simp only[go_sem];exact cX gv rfl (.str _)
theorem adv(h:(ax r.natAbs).length≤30):(zt r).length≤602:=by
 have:=YN h;unfold zt;split<;>simp<;>omega
theorem Ca(q:Rat){k:Nat}(r:bB k q)(C:k≤1900):ff 108 [cN q] (.str (bS q)):=by
 refine fK (.cons (h_ _) .nil) (bg akf ?_);have b:=tM q;have g:=r.iM.len (k:=30) aa;have ct:=r.kF.len (k:=30) aa;have o:=arV q.num aa;have s:=ar9 q.num g;unfold b6 c5 at o s;by_cases a:q.den=1
 ·rw[bw a]at b;rw[ac8 a];simp only[go_sem,DY,DZ,cN,cm];refine use b ?_;simp only[go_sem];refine use o ?_;unfold q2;by_cases d: -9223372036854775808≤q.num∧q.num<9223372036854775808
  ·rw[ay d];simp only[go_sem];refine cy (ah2 q.num d) cl ?_;simp only[go_sem];exact cX cl rfl (.str _)
  ·rw[au d];simp only[go_sem];refine cy s cl ?_;simp only[go_sem];exact cX cl rfl (.str _)
 ·rw[bp a]at b;rw[ac4 a];have H:=adv g;have I:=adv ct;simp only[go_sem,DY,DZ,MV,cN,cm];refine use b ?_;simp only[go_sem];have n:GT (dG.push (.cells (cm q) 0)):=gv.push aj _;have j:=KU q.num g (dG.push (.cells (cm q) 0)) (eI.p9 (l:=[]) (m:=2000) .nil aj) (by simp;omega) n (by show 5≤6;decide) (.inl rfl);unfold b6 c5 at j;refine j.mono ?_;rintro J w ⟨F,u,v⟩;rw[eM]at u;have D:6≤w.next:=v.next
  simp only[go_sem];refine w6 u 47 aa aa rfl ?_;intro K i e z t;have f:=v.trans t;have E:=t.next
  have p:e=0∨5≤e:=by
   rcases f.key with h|⟨_,h⟩
   ·exact .inl h
   ·have B:6<e:=h;omega
  have m:=sn f n (by show 5≤6;decide) (.inl rfl);have c:i.get 5=.cells (cm q) 0:=by
   rw[f.keep 5 (by show 5<6;decide) (.inl rfl),ag.bE,ay Jz]
  unfold cm at c;rw[jh a]at c;simp only[go_sem,MU,c];have l:=KU (q.den:Int) ct i z (by simp;omega) m aa p;rw[gR]at l;refine l.mono ?_;rintro L A ⟨G,x,y⟩;simp only[go_sem,x.str];exact cX (sn y m aa p) rfl (.str _)
end Go.Proofs.YtddhncjmaahodaaGreatDoor
namespace Go.aV
def ya(c:UInt8):Bool:=decide (dV c)
def eO(s:List UInt8):List UInt8:=s.takeWhile ya
def fR(s:List UInt8):List UInt8:=s.dropWhile ya
theorem tO(s:List UInt8):eO s++fR s=s:=List.takeWhile_append_dropWhile
theorem qS(s:List UInt8):∀c∈eO s,dV c:=by
 induction s with
 |nil=>intro c h;cases h
 |cons a s b=>
  intro c h;unfold eO at h b;rw[List.takeWhile_cons]at h;split at h
  ·rename_i d;rcases gL.1 h with rfl|h
   ·exact of_decide_eq_true d
   ·exact b c h
  ·cases h
variable{i:List UInt8}
theorem apY{c:UInt8}{t:List UInt8}(h:fR i=c::t):¬dV c:=by
 induction i with
 |nil=>cases h
 |cons a i b=>
  unfold fR at h b;rw[List.dropWhile_cons]at h;split at h
  ·exact b h
  ·rename_i d;cases h;exact fun e=>d (bw e)
theorem YO{a b:List UInt8}(d:∀c∈a,dV c)(h:∀c t,b=c::t→¬dV c):eO (a++b)=a∧fR (a++b)=b:=by
 induction a with
 |nil=>
  cases b with
  |nil=>exact⟨rfl,rfl⟩
  |cons c t=>
   have:=h c t rfl;unfold eO fR;rw[eM,List.takeWhile_cons,List.dropWhile_cons,au (by unfold ya;simpa using this),au (by unfold ya;simpa using this)];exact⟨rfl,rfl⟩
 |cons x a j=>
  obtain⟨f,g⟩:=j (fun c i=>d c (by simp[i]));have e:ya x=true:=bw (d x aJ);unfold eO fR at*;rw[fm,List.takeWhile_cons,List.dropWhile_cons,ay e,ay e,f,g];exact⟨rfl,rfl⟩
structure xk where
 neg:Bool
 num:List UInt8
 den:List UInt8
 ok:Bool
def dL(s:List UInt8):xk:=
 let neg:=decide (s.take 1=[45]);let r:=if s.take 1=[45]then s.drop 1 else s
 let n:=eO r;let t:=fR r
 if n=[48]then⟨neg,n,[], !neg&&decide (t=[])⟩
 else if n=[]∨n.head?=some 48 then⟨neg,n,[],false⟩
 else if t=[]then⟨neg,n,[],true⟩
 else if t.head?≠some 47 then⟨neg,n,[],false⟩
 else⟨neg,n,eO (t.drop 1),decide (fR (t.drop 1)=[]∧eO (t.drop 1)≠[]∧(eO (t.drop 1)).head?≠some 48∧eO (t.drop 1)≠[49])⟩
end Go.aV
namespace Go.Proofs.YtddhncjmaahodaaGreatDoor
open Go.aE Go.aV
def lG(p:xk):V:=.aK [.agg [.bool p.neg,.str p.num,.str p.den],.bool p.ok]
theorem ahC(p:xk):bZ (lG p):=.aK (.cons (.agg (.cons (.bool _) (.cons (.str _) (.cons (.str _) .nil)))) (.cons (.bool _) .nil))
theorem YH(s:List UInt8)(a:s.length≤1000000000):bA 186 [.str s] (.aK [.str (eO s),.str (fR s)]):=by
 have h:=ago (eO s) (fR s) (qS s) (fun c l e=>apY e) (by rw[←bt,tO];exact a);rw[tO]at h;exact h
theorem YP(s:List UInt8):(eO s).length≤s.length:=by
 have:=congrArg jD (tO s);rw[bt]at this;omega
theorem Kr(s:List UInt8)(P:s.length≤1000000000):bA 121 [.str s] (lG (dL s)):=by
 have u:=agp s P;refine cT (.cons (.str _) .nil) (ahC _) (bg akq ?_);obtain⟨neg,w⟩:∃b,b=decide (s.take 1=[45]):=⟨_,rfl⟩;obtain⟨r,f⟩:∃r,r=if s.take 1=[45]then s.drop 1 else s:=⟨_,rfl⟩
 have X:bA 185 [.str s,.str [45]] (.aK [.str r,.bool neg]):=by
  by_cases h:s.take 1=[45]
  ·rw[ay h]at u f;rw[w,f,bw h];exact u
  ·rw[au h]at u f;rw[w,f,bp h];exact u
 have Y:r.length≤1000000000:=by
  rw[f];split
  ·rw[gF];omega
  ·exact P
 have S:=YH r Y;have Q:dL s=(if eO r=[48]then(⟨neg,eO r,[], !neg&&decide (fR r=[])⟩:xk)else if eO r=[]∨(eO r).head?=some 48 then⟨neg,eO r,[],false⟩else if fR r=[]then⟨neg,eO r,[],true⟩else if(fR r).head?≠some 47 then⟨neg,eO r,[],false⟩else⟨neg,eO r,eO ((fR r).drop 1),decide (fR ((fR r).drop 1)=[]∧eO ((fR r).drop 1)≠[]∧(eO ((fR r).drop 1)).head?≠some 48∧eO ((fR r).drop 1)≠[49])⟩):=by
  rw[w,f];rfl
 rw[Q];clear Q u f w;have R:(fR r).length≤r.length:=by
  have:=congrArg jD (tO r);rw[bt]at this;omega
 generalize eO r=n at*
 generalize fR r=t at*
 simp only[go_sem,NA,NG,NF];refine use X ?_;simp only[go_sem,ND,NC];refine use S ?_;by_cases z:n=[48]
 ·rw[ay z];have a:decide (n=[48])=true:=bw z;cases neg with
  |true=>
   simp only[go_sem,rY,a,lG];rfl
  |false=>
   simp only[go_sem,rY,a,lG];rfl
 ·rw[au z];have a:decide (n=[48])=false:=bp z;by_cases k:n=[]
  ·rw[ay (.inl k)];have i:decide (n=[])=true:=bw k;simp only[go_sem,rY,a,i,lG]
  ·obtain⟨c,m,N⟩:∃c m,n=c::m:=by
    cases n with
    |nil=>exact absurd rfl k
    |cons c m=>exact⟨c,m,rfl⟩
   have i:decide (n=[])=false:=bp k;have H:jS [.str n,ai 0]=some (.val (.int .u8 (c.toNat:Int))):=nt aj (by rw[N];rfl);by_cases A:c=48
   ·rw[ay (.inr (by rw[N,A];rfl))];have p:decide (((c.toNat:Nat):Int)=48)=true:=bw (by rw[A];rfl);simp only[go_sem,rY,a,i,H,p,lG]
   ·have V:¬(n=[]∨n.head?=some 48):=by
     rintro(h|h)
     ·exact k h
     ·rw[N]at h;exact A (by simpa using h)
    rw[au V];have p:decide (((c.toNat:Nat):Int)=48)=false:=bp fun e=>A (vl.1 (by show c.toNat=48;omega))
    by_cases l:t=[]
    ·rw[ay l];have F:decide (t=[])=true:=bw l;simp only[go_sem,rY,a,i,H,p,F,lG]
    ·rw[au l];obtain⟨x,v,g⟩:∃c m,t=c::m:=by
      cases t with
      |nil=>exact absurd rfl l
      |cons c m=>exact⟨c,m,rfl⟩
     have F:decide (t=[])=false:=bp l;have O:jS [.str t,ai 0]=some (.val (.int .u8 (x.toNat:Int))):=nt aj (by rw[g];rfl);by_cases B:x=47
     ·have L:¬t.head?≠some 47:=fun h=>h (by rw[g,B];rfl)
      rw[au L];have I:decide (((x.toNat:Nat):Int)=47)=true:=bw (by rw[B];rfl);have U:t.drop 1=v:=by rw[g];rfl
      have Z:slice3 kg true false false [.str t,ai 1]=some (.val (.str v)):=by
       rw[uP ⟨aj,by rw[g];simp;omega⟩,g];rfl
      have T:=YH v (by rw[g]at R;simp at R;omega);rw[U];generalize eO v=d at*
      generalize fR v=e at*
      simp only[go_sem,rY,NB,a,i,H,p,F,O,I,Z];refine use T ?_;by_cases C:e=[]
      ·have j:decide (e=[])=true:=bw C;by_cases o:d=[]
       ·have q:decide (d=[])=true:=bw o;simp only[go_sem,vw,j,q,lG];rw[bp (fun h=>h.2.1 o)]
       ·obtain⟨y,d2,K⟩:∃c m,d=c::m:=by
         cases d with
         |nil=>exact absurd rfl o
         |cons c m=>exact⟨c,m,rfl⟩
        have q:decide (d=[])=false:=bp o;have M:jS [.str d,ai 0]=some (.val (.int .u8 (y.toNat:Int))):=nt aj (by rw[K];rfl);by_cases D:y=48
        ·have G:decide (((y.toNat:Nat):Int)=48)=true:=bw (by rw[D];rfl);simp only[go_sem,vw,j,q,M,G,lG];rw[bp (fun h=>h.2.2.1 (by rw[K,D];rfl))]
        ·have G:decide (((y.toNat:Nat):Int)=48)=false:=bp fun e=>D (vl.1 (by show y.toNat=48;omega))
         have W:d.head?≠some 48:=by rw[K];simpa using D
         by_cases E:d=[49]
         ·have J:decide (d=[49])=true:=bw E;simp only[go_sem,vw,j,q,M,G,J,lG];rw[bp (fun h=>h.2.2.2 E)];trivial
         ·have J:decide (d=[49])=false:=bp E;simp only[go_sem,vw,j,q,M,G,J,lG];rw[bw (⟨C,o,W,E⟩:_∧_∧_∧_)];trivial
      ·have j:decide (e=[])=false:=bp C;simp only[go_sem,vw,j,lG];rw[bp (fun h=>C h.1)]
     ·have L:t.head?≠some 47:=by rw[g];simpa using B
      rw[ay L];have I:decide (((x.toNat:Nat):Int)=47)=false:=bp fun e=>B (vl.1 (by show x.toNat=47;omega))
      simp only[go_sem,rY,a,i,H,p,F,O,I,lG]
end Go.Proofs.YtddhncjmaahodaaGreatDoor
namespace Go.aV
def r5(q:Rat):List UInt8:=if q.den=1 then []else dec q.den
def numOf(s:List UInt8):Option Rat:=
 if(dL s).ok=true∧((dL s).den=[]∨cx (dv (dL s).num) (dv (dL s).den)=1)then
  some (mkRat (if(dL s).neg then-(dv (dL s).num:Int)else(dv (dL s).num:Int)) (if(dL s).den=[]then 1 else dv (dL s).den))
 else none
variable{a:Nat}
theorem YM(h:a≠0):(dec a).head?≠some 48:=by
 have b:dec a=ds a:=au h;rw[b];cases e:ds a with
 |nil=>simp
 |cons c l=>simpa using agR a c l e
theorem YK:dec a=[48]↔a=0:=by
 constructor
 ·intro h;have b:dec 0=[48]:=rfl;exact Iq (h.trans b.symm)
 ·intro h;rw[h];rfl
theorem YL:dec a=[49]↔a=1:=by
 have b:dec 1=[49]:=by
  show(if 1=0 then _ else ds 1)=_;rw[au aj,nW aj,show 1/10=0 from rfl,lf];rfl
 constructor
 ·intro h;exact Iq (h.trans b.symm)
 ·intro h;rw[h];exact b
variable{i:List UInt8}
theorem YZ(f:∀c∈i,dV c)(d:i≠[])(h:i.head?≠some 48):dec (dv i)=i∧dv i≠0:=by
 have a:ds (dv i)=i:=agQ f (fun c m e=>by rw[e]at h;simpa using h);have b:dv i≠0:=fun e=>by rw[e,lf]at a;exact d a.symm
 exact⟨(au b).trans a,b⟩
theorem CC(q:Rat):dL (bS q)=⟨decide (q.num<0),dec q.num.natAbs,r5 q,true⟩:=by
 obtain⟨r,b⟩:∃r,r=(if q.den=1 then([]:List UInt8)else 47::dec q.den):=⟨_,rfl⟩;have o:bS q=(if q.num<0 then [45]else [])++(dec q.num.natAbs++r):=by rw[b];rfl
 have x:∀c t,r=c::t→¬dV c:=by
  intro c t e;rw[b]at e;split at e
  ·cases e
  ·cases e;decide
 obtain⟨s,u⟩:=YO (nT q.num.natAbs) x;have k:¬(dec q.num.natAbs++r).take 1=[45]:=by
  intro j;cases f:dec q.num.natAbs with
  |nil=>exact nU _ f
  |cons c m=>
   rw[f]at j;have:c=45:=by simpa using j
   have l:=nT q.num.natAbs c (by rw[f];simp);rw[this]at l;exact absurd l aj
 have v:decide ((bS q).take 1=[45])=decide (q.num<0):=by
  refine decide_eq_decide.2 ?_;rw[o];by_cases h:q.num<0
  ·rw[ay h];exact⟨fun _=>h,fun _=>rfl⟩
  ·rw[au h,eM];exact⟨fun e=>absurd e k,fun e=>absurd e h⟩
 have y:(if(bS q).take 1=[45]then(bS q).drop 1 else bS q)=dec q.num.natAbs++r:=by
  rw[o];by_cases h:q.num<0
  ·rw[ay h];rfl
  ·rw[au h,eM,au k]
 unfold dL;simp only[v,y,s,u];by_cases p:q.num=0
 ·have a:q.den=1:=by rw[Rat.num_eq_zero.1 p];rfl
  rw[ay (YK.2 aa),b,ay a];unfold r5;rw[ay a,bp (aa:¬q.num<0)];rfl
 ·have n:q.num.natAbs≠0:=aa;rw[au (fun e=>n (YK.1 e)),au (by rintro(h|h);exact nU _ h;exact YM n h)];by_cases a:q.den=1
  ·have d:r=[]:=by rw[b,ay a]
   rw[ay d];unfold r5;rw[ay a]
  ·have d:r=47::dec q.den:=by rw[b,au a]
   obtain⟨g,i⟩:=YO (a:=dec q.den) (b:=[]) (nT q.den) (fun c t h=>by cases h);rw[fA]at g i;rw[au (by rw[d];simp),au (by rw[d];simp),d];simp only[List.drop_succ_cons,List.drop_zero,g,i];unfold r5;have w:decide (True∧dec q.den≠[]∧(dec q.den).head?≠some 48∧dec q.den≠[49])=true:=bw ⟨trivial,nU _,YM q.den_nz,fun e=>a (YL.1 e)⟩;rw[au a,w]
theorem uD(q:Rat):numOf (bS q)=some q:=by
 unfold numOf;rw[CC];simp only[mM];have b:(if decide (q.num<0)=true then-(q.num.natAbs:Int)else(q.num.natAbs:Int))=q.num:=by
  by_cases h:q.num<0
  ·rw[ay (bw h)];omega
  ·rw[au (by simpa using h)];omega
 unfold r5;by_cases a:q.den=1
 ·rw[ay a,ay ⟨trivial,.inl rfl⟩,ay rfl,b];congr 1;rw[←a];exact Rat.mkRat_self q
 ·rw[au a,mM,ay ⟨trivial,.inr q.reduced⟩,au (nU _),b];congr 1;exact Rat.mkRat_self q
theorem aqY(h:i.take 1=[45]):i=45::i.drop 1:=by
 cases i with
 |nil=>cases h
 |cons c t=>
  have:c=45:=by simpa using h
  rw[this];rfl
variable{g:Nat}
theorem ac7{neg:Bool}(h:a≠0)(e:g≠0)(f:cx a g=1):bS (mkRat (if neg then-(a:Int)else(a:Int)) g)=(if neg then [45]else [])++(dec a++(if g=1 then []else 47::dec g)):=by
 have b:(if neg then-(a:Int)else(a:Int)).natAbs=a:=by cases neg<;>simp
 obtain⟨c,d⟩:=mk_one (n:=if neg then-(a:Int)else(a:Int)) e (by rw[b];exact f);unfold bS;rw[c,d,b];cases neg with
 |true=>rw[ay (by simp;omega)];rfl
 |false=>rw[au aJ];rfl
variable{y:Rat}
theorem uC(h:numOf i=some y):i=bS y:=by
 unfold numOf at h;split at h
 ·rename_i E;obtain⟨a,g⟩:=E;have f:=Option.some.inj h;clear h;obtain⟨neg,l⟩:∃b,b=decide (i.take 1=[45]):=⟨_,rfl⟩;obtain⟨r,o⟩:∃r,r=if i.take 1=[45]then i.drop 1 else i:=⟨_,rfl⟩
  have w:i=(if neg then [45]else [])++r:=by
   by_cases h:i.take 1=[45]
   ·rw[l,o,ay h,bw h,ay rfl];exact aqY h
   ·rw[l,o,au h,bp h];rfl
  have L:dL i=(if eO r=[48]then(⟨neg,eO r,[], !neg&&decide (fR r=[])⟩:xk)else if eO r=[]∨(eO r).head?=some 48 then⟨neg,eO r,[],false⟩else if fR r=[]then⟨neg,eO r,[],true⟩else if(fR r).head?≠some 47 then⟨neg,eO r,[],false⟩else⟨neg,eO r,eO ((fR r).drop 1),decide (fR ((fR r).drop 1)=[]∧eO ((fR r).drop 1)≠[]∧(eO ((fR r).drop 1)).head?≠some 48∧eO ((fR r).drop 1)≠[49])⟩):=by
   rw[l,o];rfl
  clear l o;have v:=tO r;have J:=qS r;rw[L]at a g f;generalize eO r=n at*
  generalize fR r=t at*
  by_cases s:n=[48]
  ·rw[ay s]at a g f;have k:neg=false∧t=[]:=by
    have:(!neg&&decide (t=[]))=true:=a;simpa using this
   obtain⟨rfl,rfl⟩:=k;subst s;rw[w,←v,←f];rfl
  ·rw[au s]at a g f;by_cases k:n=[]∨n.head?=some 48
   ·rw[ay k]at a;exact absurd a rJ
   ·rw[au k]at a g f;obtain⟨A,B⟩:=YZ J (fun e=>k (.inl e)) (fun e=>k (.inr e));by_cases p:t=[]
    ·rw[ay p]at a g f;subst p;simp only[if_true]at f;rw[w,←v,←f,ac7 B aj (tc _),A,ay rfl]
    ·rw[au p]at a g f;by_cases u:t.head?≠some 47
     ·rw[ay u]at a;exact absurd a rJ
     ·rw[au u]at a g f;obtain⟨j,x⟩:∃j,t=47::j:=by
       cases t with
       |nil=>exact absurd rfl p
       |cons c m=>
        have:c=47:=by simpa using u
        exact⟨m,by rw[this]⟩
      have H:t.drop 1=j:=by rw[x];rfl
      rw[H]at a g f;have K:=tO j;have G:=qS j;generalize eO j=d at*
      generalize fR j=e at*
      obtain⟨C,q,g3,D⟩:=of_decide_eq_true a;obtain⟨z,M⟩:=YZ G q g3;have I:cx (dv n) (dv d)=1:=g.resolve_left q;have F:dv d≠1:=fun e=>D (by rw[←z,e];exact YL.2 rfl)
      simp only[au q]at f;rw[w,←v,←f,ac7 B M I,A,z,au F,x,←K,C,fA]
 ·cases h
end Go.aV
namespace Go.Proofs.YtddhncjmaahodaaGreatDoor
open Go.aE Go.aV
def sM(z:Int)(d:List UInt8):V:=if d=[]∨cx z.natAbs (dv d)=1 then .aK [.agg [.bool (decide (z<0)),bz (ax z.natAbs),aq,bz (if d=[]then []else ax (dv d))],cC]else .aK [cN 0,aq]
theorem abB:V.agg [aq,.row 0 [],aq,.row 0 []]=cN 0:=by
 unfold cN cm;rw[show(0:Rat).num=0 from rfl,show dd 0=0 from rfl,Int.natAbs_zero,js];rfl
variable{c:ag}
theorem ZI(a:GT c):GT c∧∃u,cr c (dG.lW c.next) (.aK [.agg [aq,.ak,aq,.ak],aq]) u∧bZ u∧u=.aK [cN 0,aq]:=by
 refine⟨a,_,.aK (.cons (.agg (.cons (.same _) (.cons .fQ (.cons (.same _) (.cons .fQ .nil))))) (.cons (.same _) .nil)),?_⟩;rw[abB];exact⟨.aK (.cons (h_ 0) (.cons (.bool _) .nil)),rfl⟩
theorem abU(z:Int)(d:List UInt8)(t:∀c∈d,dV c)(u:d.length≤570)(x:(ax z.natAbs).length<80)(w:(ax (dv d)).length<80)(s:Bool)(n:List UInt8)(F:Fr)(H:ag)(j:rd 2 F=.ptr 5 0)(p:rd 4 F=.ptr 6 0)(k:rd 6 F=.ptr 7 0)(g:H.get 5=.cells [aq,.ak,aq,.ak] 0)(o:H.get 6=.cells [.bool s,.str n,.str d] 0)
 (bO:H.get 7=.cells [.bool (decide (z<0)),bz (ax z.natAbs),aq,.ak] 0) (e:GT H):
 bT zJ (gl [.cell 2 true 4,.tmp 3] fun y f=>GT f∧∃v,cr f (dG.lW f.next) y v∧bZ v∧v=sM z d) F H:=by
 by_cases a:d=[]
 ·have l:decide (d=[])=true:=bw a;simp only[go_sem,zJ,j,p,k,g,o,bO,l];refine⟨e.set aj _,_,.aK (.cons (.agg (.cons (.same _) (.cons (.same _) (.cons (.same _) (.cons .fQ .nil))))) (.cons (.same _) .nil)),?_⟩;unfold sM;rw[ay (.inl a),ay a];exact⟨.aK (.cons (.agg (.cons (.bool _) (.cons (dA _) (.cons (.bool _) (.cons (.row 0 .nil) .nil))))) (.cons (.bool _) .nil)),rfl⟩
 ·have l:decide (d=[])=false:=bp a;have q:=B5 d t u;rw[gR]at q;have m:=ze z (dv d:Int) x (by rw[cV];exact w);rw[cV,gR (dv d)]at m;have i:=xb ((cx z.natAbs (dv d):Nat):Int);have r:decide (((cx z.natAbs (dv d):Nat):Int)=1)=decide (cx z.natAbs (dv d)=1):=decide_eq_decide.2 aa;rw[r]at i;unfold b6 c5 at m i;simp only[go_sem,zJ,O0,p,o,l];refine use q ?_;simp only[go_sem,OZ,k,bO];refine cy m (e.set aj _) ?_;simp only[go_sem];refine use i ?_;by_cases b:cx z.natAbs (dv d)=1
  ·rw[bw b];simp only[go_sem,OY,j,k,g];refine cX ((e.set aj _).set aj _) ?_ ?_
   ·unfold sM;rw[ay (.inr b),au a]
   ·unfold sM;rw[ay (.inr b)];exact .aK (.cons (.agg (.cons (.bool _) (.cons (dA _) (.cons (.bool _) (.cons (dA _) .nil))))) (.cons (.bool _) .nil))
  ·rw[bp b];simp only[go_sem,j,g];unfold sM;rw[au (by rintro(h|h);exact a h;exact b h)];exact ZI ((e.set aj _).set aj _)
theorem JT(s:List UInt8):(∀c∈(dL s).num,dV c)∧(dL s).num.length≤s.length∧(∀c∈(dL s).den,dV c)∧(dL s).den.length≤s.length:=by
 obtain⟨r,d⟩:∃r,r=if s.take 1=[45]then s.drop 1 else s:=⟨_,rfl⟩
 have g:r.length≤s.length:=by
  rw[d];split
  ·rw[gF];omega
  ·omega
 have j:=YP r;have a:(eO r).length≤s.length:=aa;have i:(fR r).length≤r.length:=by
  have:=congrArg jD (tO r);rw[bt]at this;omega
 have e:=YP ((fR r).drop 1);rw[gF]at e;have f:(eO ((fR r).drop 1)).length≤s.length:=aa;have b:∀c∈([]:List UInt8),dV c:=fun c h=>by cases h
 unfold dL;simp only[←d];split
 ·exact⟨qS r,a,b,ck _⟩
 ·split
  ·exact⟨qS r,a,b,ck _⟩
  ·split
   ·exact⟨qS r,a,b,ck _⟩
   ·split
    ·exact⟨qS r,a,b,ck _⟩
    ·exact⟨qS r,a,qS _,f⟩
def sD(s:List UInt8):V:=match numOf s with
 |some q=>.aK [cN q,.bool true]
 |none=>.aK [cN 0,.bool false]
variable{i:List UInt8}{y:Rat}
theorem B2(h:numOf i=some y):sD i=.aK [cN y,cC]:=by unfold sD;rw[h]
theorem JD(h:numOf i=none):sD i=.aK [cN 0,aq]:=by unfold sD;rw[h]
theorem apt(s:List UInt8)(e:(dL s).ok=true):sM (if(dL s).neg then-(dv (dL s).num:Int)else(dv (dL s).num:Int)) (dL s).den=sD s:=by
 have d:(if(dL s).neg then-(dv (dL s).num:Int)else(dv (dL s).num:Int)).natAbs=dv (dL s).num:=by
  split<;>simp
 cases a:numOf s with
 |some q=>
  have f:=uC a;rw[B2 a];have c:=CC q;rw[←f]at c;rw[c];simp only[mM];have g:(if decide (q.num<0)=true then-(q.num.natAbs:Int)else(q.num.natAbs:Int))=q.num:=by
   by_cases h:q.num<0
   ·rw[ay (bw h)];omega
   ·rw[au (by simpa using h)];omega
  rw[g];unfold sM r5;by_cases b:q.den=1
  ·rw[ay b,ay (.inl rfl),ay rfl];unfold cN cm;rw[lZ b,js]
  ·rw[au b,mM,ay (.inr q.reduced),au (nU _)];unfold cN cm;rw[jh b]
 |none=>
  rw[JD a];unfold sM;rw[d];have:¬((dL s).den=[]∨cx (dv (dL s).num) (dv (dL s).den)=1):=fun h=>by
   unfold numOf at a;rw[ay ⟨e,h⟩]at a;cases a
  rw[au this]
theorem J8(s:List UInt8)(i:s.length≤500):ff 163 [.str s] (sD s):=by
 refine fK (.cons (.str _) .nil) (bg akG ?_);obtain⟨b,r,a,q⟩:=JT s;have j:=apt s;have k:(dL s).ok≠true→sD s=.aK [cN 0,aq]:=fun h=>JD (by unfold numOf;rw[au (fun e=>h e.1)])
 simp only[go_sem,OX,O2];refine use (Kr s aa) ?_;unfold lG;generalize dL s=p at*
 obtain⟨neg,n,d,t⟩:=p;simp only at b r a q j k;have m:=B5 n b aa;rw[gR]at m;have f:∀l:List UInt8,(∀c∈l,dV c)→l.length≤500→(ax (dv l)).length<80:=fun l i u=>by
  have o:dv l<2^2000:=@Go.aV.B7 (dv l) 10 l.length 2 4 2000 (nr l i) aj aa aj;have:=(dU.nat o).len (k:=32) aj;rw[cV]at this;omega
 cases t with
 |false=>
  rw[k rJ];simp only[go_sem,EH];exact ZI cl
 |true=>
  rw[←j rfl];simp only[go_sem,EH,O1];refine use m ?_;cases neg with
  |true=>
   have g:=adr (dv n:Int);rw[gR]at g;unfold b6 c5 at g;simp only[go_sem,EG];refine use g ?_;simp only[go_sem];refine abU (-(dv n:Int)) d a aa (by rw[lO,cV];exact f n b aa) (f d a aa) true n _ _ ?_ ?_ ?_ ?_ ?_ ?_ cl
   iterate 6 simp only[go_sem]
  |false=>
   simp only[go_sem,EG];refine abU (dv n:Int) d a aa (by rw[cV];exact f n b aa) (f d a aa) false n _ _ ?_ ?_ ?_ ?_ ?_ ?_ cl
   iterate 5 simp only[go_sem]
   ·simp only[go_sem];rw[bp (aa:¬((dv n:Nat):Int)<0),cV]
theorem adb(c:UInt8)(a:dV c):aG .u8 (((c.toNat:Nat):Int)-48)=((c.toNat-48:Nat):Int):=by
 unfold dV at a;have:c.toNat<256:=c.toNat_lt;have e:((c.toNat:Nat):Int)-48=((c.toNat-48:Nat):Int):=aa;rw[e];show((c.toNat-48:Nat):Int)%256=_;omega
theorem YQ(d:List UInt8)(j:∀c∈d,dV c)(H:d.length≤18):bA 184 [.str d] (ai (dv d:Int)):=by
 refine cT (.cons (.str _) .nil) (.int _ _) (bg akX ?_);simp only[go_sem,PY,P6,P5];refine bW (fun k b n=>∃i:Nat,rd 0 b=.str d∧rd 3 b=ai ((dv (d.take i):Nat):Int)∧rd 6 b=ai (d.length:Int)∧rd 7 b=ai (i:Int)∧k=d.length-i∧i≤d.length) d.length ⟨0,?_,?_,?_,?_,rfl,ck _⟩ ?_
 ·simp only[go_sem]
 ·simp only[go_sem];rfl
 ·simp only[go_sem]
 ·simp only[go_sem];rfl
 rintro k b n ⟨i,l,e,f,m,rfl,G⟩;unfold P3;by_cases t:i<d.length
 ·obtain⟨c,g⟩:∃c,d[i]? =some c:=⟨d[i],cH t⟩;have q:dV c:=j c (er g);have s:jS [.str d,ai (i:Int)]=some (.val (.int .u8 (c.toNat:Int))):=nt aa (by rw[bN];exact g);have y:d.take (i+1)=d.take i++[c]:=by rw[List.take_add_one,g];rfl
  have v:dv (d.take (i+1))=10*dv (d.take i)+(c.toNat-48):=by rw[y,vN]
  have o:=nr (d.take i) (fun c h=>j c (ve h));have p:=nr (d.take (i+1)) (fun c h=>j c (ve h));rw[ep,oH aa]at o p;have w:10^i≤10^18:=fN aj aa;have x:10^(i+1)≤10^18:=fN aj aa;have E:(10:Nat)^18=1000000000000000000:=aj;rw[E]at w x;have z:=adb c q;generalize dv (d.take i)=a at*
  have B:aG .i64 (10*(a:Int))=((10*a:Nat):Int):=by rw[aQ _ aa];omega
  have F:c.toNat<256:=c.toNat_lt;have A:aG .i64 ((c.toNat-48:Nat):Int)=((c.toNat-48:Nat):Int):=aQ _ aa;have C:aG .i64 (((10*a:Nat):Int)+((c.toNat-48:Nat):Int))=((dv (d.take (i+1)):Nat):Int):=by rw[aQ _ aa,v];omega
  have D:aG .i64 ((i:Int)+1)=((i+1:Nat):Int):=by rw[aQ _ aa];rfl
  have u:((i:Int)<(d.length:Int)):=aa;simp(disch:=assumption)only[go_sem,E6,P2,PZ,l,e,f,m,dt,s,z,A,B,C,D];refine⟨d.length-(i+1),aa,i+1,?_,?_,?_,?_,rfl,aa⟩
  iterate 4 simp only[go_sem,l,f]
 ·have r:i=d.length:=aa;subst r;rw[cq (aR _)]at e;have u:¬((d.length:Int)<(d.length:Int)):=aa;simp(disch:=assumption)only[go_sem,E6,P4,e,f,m,df]
theorem ZQ(a b:Nat)(j:a<9223372036854775808)(l:b<9223372036854775808):bA 160 [ai (a:Int),ai (b:Int)] (ai (cx a b:Int)):=by
 refine cT (.cons (.int _ _) (.cons (.int _ _) .nil)) (.int _ _) (bg akF ?_);simp only[go_sem,OO,OS];refine bW (fun k c h=>∃x:Nat,rd 0 c=ai (x:Int)∧rd 1 c=ai (k:Int)∧cx x k=cx a b) b ⟨a,?_,?_,rfl⟩ ?_
 iterate 2 simp only[go_sem]
 rintro k c h ⟨x,e,f,d⟩;unfold OQ;by_cases g:k=0
 ·subst g;rw[Nat.gcd_zero_right]at d;have i:((0:Nat):Int)=0:=rfl;simp only[go_sem,OR,e,f,i,decide_true,dZ];rw[d]
 ·have m:¬((k:Nat):Int)=0:=aa;simp(disch:=assumption)only[go_sem,OP,e,f,df,gS,k_,wU];refine⟨x%k,eK _ (jP g),k,?_,?_,?_⟩
  iterate 2 simp only[go_sem]
  ·rw[←d,oF x k,Nat.gcd_rec k x,oF]
def gJ(s:List UInt8):Option Rat:=if s.length≤20∧(dL s).num.length≤9∧(dL s).den.length≤9 then numOf s else none
def mX:Option Rat→List V
 |some q=>[.int .i64 q.num,.int .i64 (q.den:Int)]
 |none=>[.int .i64 0,.int .i64 0]
def wL(o:Option Rat):V:=.aK [.agg (mX o),.bool o.isSome]
theorem x5(o:Option Rat):bZ (.agg (mX o)):=by
 cases o with
 |none=>exact .agg (.cons (.int _ _) (.cons (.int _ _) .nil))
 |some q=>exact .agg (.cons (.int _ _) (.cons (.int _ _) .nil))
theorem ahF(o:Option Rat):bZ (wL o):=.aK (.cons (x5 o) (.cons (.bool _) .nil))
theorem acs(s:List UInt8)(c:(dL s).ok=true)(h:(dL s).den=[]∨cx (dv (dL s).num) (dv (dL s).den)=1):∃q,numOf s=some q∧q.num=(if(dL s).neg then-(dv (dL s).num:Int)else(dv (dL s).num:Int))∧q.den=if(dL s).den=[]then 1 else dv (dL s).den:=by
 obtain⟨q,b⟩:∃q,numOf s=some q:=⟨_,by unfold numOf;rw[ay ⟨c,h⟩]⟩;refine⟨q,b,?_⟩;have d:=uC b;rw[d,CC q];simp only[mM];constructor
 ·by_cases h:q.num<0
  ·rw[ay (bw h)];omega
  ·rw[au (by simpa using h)];omega
 ·unfold r5;by_cases a:q.den=1
  ·rw[ay a,ay rfl,a]
  ·rw[au a,au (nU _),mM]
theorem acu(s:List UInt8)(h:¬((dL s).ok=true∧((dL s).den=[]∨cx (dv (dL s).num) (dv (dL s).den)=1))):numOf s=none:=by
 unfold numOf;rw[au h]
theorem Bh(d:List UInt8)(a:∀c∈d,dV c)(b:d.length≤9):dv d<1000000000:=ei (nr d a) (fN aj b)
theorem Ko(s:List UInt8)(E:s.length≤1000000000):bA 120 [.str s] (wL (gJ s)):=by
 refine cT (.cons (.str _) .nil) (ahF _) (bg akp ?_);by_cases y:s.length≤20
 ·obtain⟨u,D,m,B⟩:=JT s;have t:=acs s;have w:=acu s;have i:gJ s=if(dL s).num.length≤9∧(dL s).den.length≤9 then numOf s else none:=by
   unfold gJ;by_cases h:(dL s).num.length≤9∧(dL s).den.length≤9
   ·rw[ay ⟨y,h⟩,ay h]
   ·rw[au (fun e=>h e.2),au h]
  have k:decide ((20:Int)<((s.length:Nat):Int))=false:=bp aa;simp only[go_sem,Ec,Ed,Nz,k];refine use (Kr s E) ?_;rw[i];unfold lG;generalize numOf s=o at*
  generalize dL s=p at*
  obtain⟨neg,n,d,F⟩:=p;simp only at u D m B t w i⊢;cases F with
  |false=>
   have:o=none:=w (fun h=>rJ h.1);rw[this,ite_self];simp only[go_sem,xI];rfl
  |true=>
   by_cases v:n.length≤9
   ·have c:decide ((9:Int)<((n.length:Nat):Int))=false:=bp aa;by_cases r:d.length≤9
    ·have l:decide ((9:Int)<((d.length:Nat):Int))=false:=bp aa;rw[ay ⟨v,r⟩];have H:=Bh n u v;have G:=Bh d m r;have A:=YQ n u aa;have dd:=YQ d m aa;have C:=ZQ (dv n) (dv d) aa aa;simp only[go_sem,xI,Ny,c,l];refine use A ?_;have z:aG .i64 (-(dv n:Int))= -(dv n:Int):=aQ _ aa;by_cases a:d=[]
     ·have f:decide (d=[])=true:=bw a;obtain⟨q,rfl,j,b⟩:=t rfl (.inl a);rw[ay a]at b;unfold wL mX;simp only[pP];rw[j,b];cases neg with
      |true=>
       simp only[go_sem,zD,xH,xG,f,z]
       all_goals first|trivial|rfl
      |false=>
       simp only[go_sem,zD,xH,xG,f,kj]
       all_goals first|trivial|rfl
     ·have f:decide (d=[])=false:=bp a;simp only[go_sem,zD,f];refine use dd ?_;simp only[go_sem];refine use C ?_;by_cases x:cx (dv n) (dv d)=1
      ·obtain⟨q,rfl,j,b⟩:=t rfl (.inr x);rw[au a]at b;unfold wL mX;simp only[pP];rw[j,b];have g:decide (((cx (dv n) (dv d):Nat):Int)=1)=true:=bw aa;cases neg with
       |true=>
        simp only[go_sem,xH,xG,g,z]
        all_goals first|trivial|rfl
       |false=>
        simp only[go_sem,xH,xG,g,kj]
        all_goals first|trivial|rfl
      ·have:o=none:=w (fun h=>h.2.elim a x);rw[this];have g:decide (((cx (dv n) (dv d):Nat):Int)=1)=false:=bp aa;simp only[go_sem,g];rfl
    ·have l:decide ((9:Int)<((d.length:Nat):Int))=true:=bw aa;rw[au (fun h=>r h.2)];simp only[go_sem,xI,c,l];rfl
   ·have c:decide ((9:Int)<((n.length:Nat):Int))=true:=bw aa;rw[au (fun h=>v h.1)];simp only[go_sem,xI,c];rfl
 ·have k:decide ((20:Int)<((s.length:Nat):Int))=true:=bw aa;have i:gJ s=none:=by unfold gJ;rw[au (fun e=>y e.1)]
  rw[i];simp only[go_sem,Ec,Ed,k];rfl
def oc(s t:List UInt8):V:=match gJ s,gJ t with
 |some p,some q=>.aK [.agg (mX (some p)),.agg (mX (some q)),.bool true]
 |_,_=>.aK [.agg (mX none),.agg (mX none),.bool false]
theorem ahE(s t:List UInt8):bZ (oc s t):=by
 unfold oc;split
 ·exact .aK (.cons (x5 _) (.cons (x5 _) (.cons (.bool _) .nil)))
 ·exact .aK (.cons (x5 _) (.cons (x5 _) (.cons (.bool _) .nil)))
theorem Cw(s t:List UInt8)(c:s.length≤1000000000)(d:t.length≤1000000000):bA 104 [.str s,.str t] (oc s t):=by
 refine cT (.cons (.str _) (.cons (.str _) .nil)) (ahE _ _) (bg akb ?_);have a:=Ko s c;have b:=Ko t d;unfold oc;generalize gJ s=o at*
 generalize gJ t=u at*
 unfold wL at a b;simp only[go_sem,MH,MK];refine use a ?_;cases o with
 |none=>
  simp only[go_sem,DU,pP,mX]
 |some p=>
  simp only[go_sem,DU,MJ,pP,mX];refine use b ?_;cases u with
  |none=>
   simp only[go_sem,DT,pP,mX]
  |some q=>
   simp only[go_sem,DT,MI,pP,mX]
   all_goals first|trivial|rfl
end Go.Proofs.YtddhncjmaahodaaGreatDoor
