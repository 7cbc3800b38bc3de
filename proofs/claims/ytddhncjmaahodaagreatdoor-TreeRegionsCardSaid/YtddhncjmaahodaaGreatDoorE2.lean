/- Towards the law TreeRegions: lemmas on the evaluator of the model's code, plain laws of numbers, walks of the program's functions, the card. No conditions. -/
import Derived.Test.YtddhncjmaahodaaGreatDoorE1
set_option linter.all false
noncomputable section
open Bool renaming and_eq_true→cz,eq_false_iff→mB,false_eq_true→kj,or_eq_true→pE
open Classical renaming byContradiction→m6
open Go.Proofs.Tryz renaming prog→eW
open Int renaming natAbs_mul→nH,natAbs_natCast→cV,natAbs_neg→lO,natCast_mul→e7,natCast_nonneg→s7,natCast_zero→jn,ofNat_lt→qB,tdiv→kq,tmod→lP,toNat_natCast→bN
open List renaming append_assoc→eG,append_nil→fA,cons_append→fm,drop_eq_getElem_cons→kr,drop_of_length_le→i_,getD_eq_getElem?_getD→c_,getElem?_append_left→k3,getElem?_append_right→pI,getElem?_drop→pJ,getElem?_eq_getElem→cH,getElem?_eq_none→m9,getElem?_eq_some_iff→fo,getElem?_map→qE,getElem_mem→u_,length_append→bt,length_cons→di,length_drop→gF,length_nil→lR,length_pos_iff→vb,length_singleton→gm,length_take_of_le→gK,length_take→ep,length→jD,mem_append→gU,mem_cons→gL,mem_map→nc,mem_of_getElem?→er,mem_of_mem_take→ve,mem_singleton→dH,merge→qF,nil_append→eM,pairwise_cons→rM,replicate_succ→oA,replicate_zero→oB,replicate→br,take_append_drop→oC,take_left→oD,take_of_length_le→cq,take_succ_eq_append_getElem→jZ,take_zero→nK
open Nat renaming add_assoc→jq,add_comm→iy,add_mul→cZ,add_sub_cancel→pL,add_zero→cO,add→fW,beq→bK,ble→b8,div_add_mod→iN,div_div_eq_div_mul→nL,div_eq_of_lt→lT,div_le_self→g7,div_lt_iff_lt_mul→pM,div_lt_of_lt_mul→s9,div_mul_le_self→vg,div_one→nM,dvd_mul_left→s_,dvd_trans→rN,eq_zero_or_pos→qH,gcd_comm→oF,gcd_dvd_right→ta,gcd→cx,le_div_iff_mul_le→rO,le_of_lt→hD,le_of_not_lt→ja,le_refl→aR,le_trans→cI,lt_of_le_of_lt→eH,lt_of_lt_of_le→ei,lt_of_mul_lt_mul_right→rP,lt_of_not_le→rQ,lt_or_ge→k4,lt_succ_self→lU,lt_trans→oG,mod_eq_of_lt→jr,mod_lt→eK,mul_add→bU,mul_assoc→cg,mul_comm→b3,mul_div_cancel→td,mul_le_mul_left→fc,mul_le_mul_right→dz,mul_le_mul→jO,mul_left_comm→k5,mul_lt_mul_of_pos_right→ng,mul_mod_mul_right→qJ,mul_one→dQ,mul_right_comm→rR,mul_zero→fe,mul→dW,not_lt_zero→pN,one_mul→fM,pos_of_ne_zero→jP,pow_add→fX,pow_le_pow_left→vh,pow_le_pow_right→fN,pow_pos→e8,pow_succ→c3,pow_zero→mF,reduceEqDiff→kz,strongRecOn→jb,sub_self→lV,sub→iz,succ_mul→pO,succ_pos→nh,zero_add→fB,zero_le→ck,zero_mul→jE
open Option renaming none→aW
open Rat renaming divInt_ofNat→tj
open UInt8 renaming ofNat→gG
namespace Go.Proofs.YtddhncjmaahodaaGreatDoor
open Go.aE Go.aV
theorem q3(z:Int):V.agg [.bool (decide (z<0)),mag (aU z.natAbs)]=cB z:=rfl
theorem n_(q:Rat):V.agg [.bool (decide (q.num<0)),mag (aU q.num.natAbs),aq,mag (aU (dd q))]=cJ q:=rfl
variable{a:Nat}{g:Nat}{z:Nat}{I:Nat}
theorem wQ(b:z<2^a)(c:I<2^g)(h:a+g≤30000000):dI (z*I):=dI.of (sA b c) h
theorem Cc(p q:Rat)(i:bB a p)(j:bB g q)(z:a+g+1≤30000000):bA 37 [cJ p,cJ q] (cJ (p+q)):=by
 have o:dI p.num.natAbs:=dI.of i.num aa;have s:dI q.num.natAbs:=dI.of j.num aa;have r:dI p.den:=dI.of i.den aa;have t:dI q.den:=dI.of j.den aa;refine e3 (.cons (iu _) (.cons (iu _) .nil)) (bg alZ ?_)
 have n:∀F H,rd 2 F=.ptr 5 0→rd 3 F=.ptr 6 0→rd 4 F=.ptr 7 0→H.get 5=.cells (bY p) 0→H.get 6=.cells (bY q) 0→H.get 7=.cells [aq,.ak,aq,.ak] 0→
  bT Hp (gl [.cell 4 true 4] fun G m=>∃v,cr m (ag.zero m.next) G v∧bZ v∧v=cJ (p+q)) F H:=by
  intro F H b h y f c bO;unfold bY at f c;have B:dI (p.num*(q.den:Int)).natAbs:=by rw[nH];exact wQ i.num j.den aa
  have C:dI (q.num*(p.den:Int)).natAbs:=by rw[nH];exact wQ j.num i.den aa
  have D:dI ((p.den:Int)*(q.den:Int)).natAbs:=by rw[nH];exact wQ i.den j.den aa
  have E:dI (p.num*(q.den:Int)+q.num*(p.den:Int)).natAbs:=by
   refine eH (Int.natAbs_add_le _ _) ?_;rw[nH,nH];have I:=sA i.num j.den;have u:=sA j.num i.den;rw[iy g a]at u;refine dI.of (k:=a+g+1) ?_ z;rw[c3];show p.num.natAbs*q.den+q.num.natAbs*p.den<_;omega
  have A:((p.den:Int)*(q.den:Int))≠0:=by
   have k:=p.den_nz;have b:=q.den_nz;exact Int.mul_ne_zero aa aa
  have e:Rat.divInt (p.num*(q.den:Int)+q.num*(p.den:Int)) ((p.den:Int)*(q.den:Int))=p+q:=by
   rw[vm,←e7,tj]
  simp only[go_sem,Hp,q3,n_,b,h,f,c];refine use (vJ q) ?_;simp only[go_sem,q3,n_,b,h,f,c,true_and];refine use (wu _ _ o (by rw[cV];exact t)) ?_;simp only[go_sem,q3,n_,b,h,f,c,true_and];refine use (vJ p) ?_;simp only[go_sem,q3,n_,b,h,f,c,true_and];refine use (wu _ _ s (by rw[cV];exact r)) ?_;simp only[go_sem,n_,b,h,f,c,true_and];refine use (Lr _ _ B C) ?_;simp only[go_sem,n_,b,h,f,c,true_and];refine use (vJ p) ?_;simp only[go_sem,n_,h,c,true_and];refine use (vJ q) ?_;simp only[go_sem];refine use (wu _ _ (by rw[cV];exact r) (by rw[cV];exact t)) ?_;simp only[go_sem];refine use (vW _ _ A E D) ?_;rw[e];simp only[go_sem,cJ,bY,y,bO];exact g8 rfl (iu _)
 by_cases k:p.den=1
 ·by_cases b:q.den=1
  ·have d:=lZ k;have l:=lZ b;obtain⟨w,x⟩:=add_one k b;simp(disch:=omega)only[go_sem,AO,AP,cJ,bY,d,l,q7,q3,jn,decide_true];refine use (Lr _ _ o s) ?_;simp only[go_sem,cB,dJ];exact I2 w x
  ·have d:=lZ k;have l:=jh b;have K:=q6 q.den_nz;simp(disch:=omega)only[go_sem,AO,AP,cJ,bY,d,l,q7,df,jn,decide_true];refine n _ _ ?_ ?_ ?_ ?_ ?_ ?_
   all_goals simp only[go_sem,bY,d,l]
 ·have d:=jh k;have J:=q6 p.den_nz;simp(disch:=omega)only[go_sem,AO,AP,cJ,bY,d,df];refine n _ _ ?_ ?_ ?_ ?_ ?_ ?_
  all_goals simp only[go_sem,bY,d]
theorem ab_(p q:Rat)(f:bB a p)(h:bB g q)(C:a+g≤30000000):bA 38 [cJ p,cJ q] (cJ (p*q)):=by
 have r:dI p.num.natAbs:=dI.of f.num aa;have s:dI q.num.natAbs:=dI.of h.num aa;have z:dI p.den:=dI.of f.den aa;have A:dI q.den:=dI.of h.den aa;refine e3 (.cons (iu _) (.cons (iu _) .nil)) (bg al0 ?_)
 have n:∀F H,rd 2 F=.ptr 5 0→rd 3 F=.ptr 6 0→rd 4 F=.ptr 7 0→H.get 5=.cells (bY p) 0→H.get 6=.cells (bY q) 0→H.get 7=.cells [aq,.ak,aq,.ak] 0→
  bT Hq (gl [.cell 4 true 4] fun B m=>∃v,cr m (ag.zero m.next) B v∧bZ v∧v=cJ (p*q)) F H:=by
  intro F H c l w k j bO;unfold bY at k j;have o:dI (p.num*q.num).natAbs:=by rw[nH];exact wQ f.num h.num aa
  have y:dI ((p.den:Int)*(q.den:Int)).natAbs:=by rw[nH];exact wQ f.den h.den aa
  have x:((p.den:Int)*(q.den:Int))≠0:=by
   have d:=p.den_nz;have c:=q.den_nz;exact Int.mul_ne_zero aa aa
  have e:Rat.divInt (p.num*q.num) ((p.den:Int)*(q.den:Int))=p*q:=by
   rw[BY,←e7,tj]
  simp only[go_sem,Hq,q3,n_,c,l,k,j];refine use (wu _ _ r s) ?_;simp only[go_sem,n_,c,l,k,j,true_and];refine use (vJ p) ?_;simp only[go_sem,n_,l,j,true_and];refine use (vJ q) ?_;simp only[go_sem];refine use (wu _ _ (by rw[cV];exact z) (by rw[cV];exact A)) ?_;simp only[go_sem];refine use (vW _ _ x o y) ?_;rw[e];simp only[go_sem,cJ,bY,w,bO];exact g8 rfl (iu _)
 by_cases d:p.den=1
 ·by_cases c:q.den=1
  ·have b:=lZ d;have i:=lZ c;obtain⟨t,u⟩:=mul_one d c;have o:dI (p.num*q.num).natAbs:=by rw[nH];exact wQ f.num h.num aa
   simp(disch:=omega)only[go_sem,AQ,AR,cJ,bY,b,i,q7,q3,jn,decide_true];refine use (wu _ _ r s) ?_;simp only[go_sem,cB,dJ];exact I2 t u
  ·have b:=lZ d;have i:=jh c;have E:=q6 q.den_nz;simp(disch:=omega)only[go_sem,AQ,AR,cJ,bY,b,i,q7,df,jn,decide_true];refine n _ _ ?_ ?_ ?_ ?_ ?_ ?_
   all_goals simp only[go_sem,bY,b,i]
 ·have b:=jh d;have D:=q6 p.den_nz;simp(disch:=omega)only[go_sem,AQ,AR,cJ,bY,b,df];refine n _ _ ?_ ?_ ?_ ?_ ?_ ?_
  all_goals simp only[go_sem,bY,b]
theorem Kg(p q:Rat)(c:bB a p)(d:bB g q)(b:a+g+1≤30000000):bA 39 [cJ p,cJ q] (cJ (p-q)):=by
 refine cT (.cons (iu _) (.cons (iu _) .nil)) (iu _) (bg al1 ?_);simp only[go_sem,VL,VM,cJ,bY];refine use (ab' q) ?_;simp only[go_sem,n_,true_and];refine use (Cc p (-q) c d.neg b) ?_;rw[Rat.sub_eq_add_neg];simp only[go_sem,cJ,bY]
def ig(q:Rat):Int:=if q.num<0 then-1 else if q.num=0 then 0 else 1
theorem abK(p q:Rat)(c:bB a p)(d:bB g q)(b:a+g+1≤30000000):bA 40 [cJ p,cJ q] (ai (ig (p-q))):=by
 refine cT (.cons (iu _) (.cons (iu _) .nil)) (.int _ _) (bg al2 ?_);simp only[go_sem,VY,VZ,cJ,bY];refine use (Kg p q c d b) ?_;simp only[go_sem,n_];refine use (ach (p-q)) ?_;simp only[go_sem,ig]
end Go.Proofs.YtddhncjmaahodaaGreatDoor
namespace Go.aV
def ds(n:Nat):List UInt8:=if h:n=0 then []else ds (n/10)++[gG (48+n%10)]
termination_by n
decreasing_by omega
theorem lf:ds 0=[]:=by rw[ds];simp
variable{a:Nat}
theorem nW(h:a≠0):ds a=ds (a/10)++[gG (48+a%10)]:=by rw[ds];simp[h]
theorem Bg(v c:Nat)(a:c<10)(h:v≠0∨c≠0):ds (10*v+c)=ds v++[gG (48+c)]:=by
 rw[nW aa,(aa:(10*v+c)/10=v),(aa:(10*v+c)%10=c)]
def dec(n:Nat):List UInt8:=if n=0 then [48]else ds n
def dv(l:List UInt8):Nat:=l.foldl (fun a c=>10*a+(c.toNat-48)) 0
theorem vN(l:List UInt8)(c:UInt8):dv (l++[c])=10*dv l+(c.toNat-48):=by simp[dv]
theorem agV(n:Nat):dv (ds n)=n:=by
 induction n using jb with
 |ind n a=>
  by_cases h:n=0
  ·subst h;rw[lf];rfl
  ·rw[nW h,vN,a (n/10) aa];have:(gG (48+n%10)).toNat=48+n%10:=by
    rw[UInt8.toNat_ofNat'];omega
   rw[this];omega
theorem mM(n:Nat):dv (dec n)=n:=by
 unfold dec;split
 ·rename_i h;rw[h];rfl
 ·exact agV n
def dV(c:UInt8):Prop:=48≤c.toNat∧c.toNat≤57
instance(c:UInt8):Decidable (dV c):=inferInstanceAs (Decidable (_∧_))
theorem agS(n:Nat):∀c∈ds n,dV c:=by
 induction n using jb with
 |ind n a=>
  by_cases h:n=0
  ·subst h;rw[lf];intro c hc;cases hc
  ·rw[nW h];intro c hc;rcases gU.1 hc with hc|hc
   ·exact a (n/10) aa c hc
   ·rw[dH.1 hc];have:(gG (48+n%10)).toNat=48+n%10:=by
     rw[UInt8.toNat_ofNat'];omega
    unfold dV;rw[this];omega
theorem nT(n:Nat):∀c∈dec n,dV c:=by
 unfold dec;split
 ·intro c a;rw[dH.1 a];decide
 ·exact agS n
theorem Bf(h:a≠0):ds a≠[]:=by rw[nW h];simp
theorem nU(n:Nat):dec n≠[]:=by
 unfold dec;split
 ·simp
 ·rename_i h;exact Bf h
theorem agR(n:Nat):∀c l,ds n=c::l→c≠48:=by
 induction n using jb with
 |ind n f=>
  by_cases h:n=0
  ·subst h;rw[lf];intro c l a;cases a
  ·rw[nW h];intro c l a;by_cases b:n/10=0
   ·rw[b,lf]at a;have e:=(List.cons.inj a).1;rw[←e];intro d;have:=congrArg UInt8.toNat d;rw[UInt8.toNat_ofNat']at this;have g:(48:UInt8).toNat=48:=rfl;omega
   ·cases e:ds (n/10)with
    |nil=>exact absurd e (Bf b)
    |cons x m=>
     rw[e]at a;have:=(List.cons.inj a).1;rw[←this];exact f (n/10) aa x m e
theorem oO{n k:Nat}(h:n<10^k):(ds n).length≤k:=by
 induction k generalizing n with
 |zero=>
  have:n=0:=by simp at h;exact h
  rw[this,lf];exact aR _
 |succ k a=>
  by_cases e:n=0
  ·rw[e,lf];exact ck _
  ·rw[nW e];have:=a (n:=n/10) (by rw[c3]at h;omega);simp;omega
theorem agT{n:Nat}(h:10^a≤n):a<(ds n).length:=by
 induction a generalizing n with
 |zero=>
  have:n≠0:=by simp at h;omega
  exact vb.2 (Bf this)
 |succ a b=>
  have:n≠0:=by have:=e8 (n:=a+1) (aj:0<10);omega
  rw[nW this];have:=b (n:=n/10) (by rw[c3]at h;omega);simp;omega
variable{g:Nat}
theorem tN(h:a<2^g):(dec a).length≤g+1:=by
 unfold dec;split
 ·simp
 ·have:a<10^g:=ei h (vh aj g);have:=oO this;omega
variable{i:List UInt8}
theorem agQ(k:∀c∈i,dV c)(h:∀c m,i=c::m→c≠48):ds (dv i)=i:=by
 have:∀(r:List UInt8),(∀c∈r,dV c)→(∀c m,r.reverse=c::m→c≠48)→ds (dv r.reverse)=r.reverse:=by
  intro r;induction r with
  |nil=>intro _ _;exact lf
  |cons c r n=>
   intro f g;have j:dV c:=f c aJ;have b:=n (fun x l=>f x (by simp[l])) (fun x m e=>g x (m++[c]) (by simp[e]));have d:gG (48+(c.toNat-48))=c:=by
    rw[show 48+(c.toNat-48)=c.toNat by have:=j.1;omega];simp
   rw[List.reverse_cons,vN,Bg _ _ (by have:=j.2;omega),b,d];by_cases e:r.reverse=[]
   ·right;intro a;refine g c [] (by simp[e]) ?_;rw[←d,a];rfl
   ·left;intro a;rw[a,lf]at b;exact e b.symm
 have:=this i.reverse (by simpa using k) (by simpa using h);simpa using this
theorem Iq(h:dec a=dec g):a=g:=by rw[←mM a,h,mM]
def bS(q:Rat):List UInt8:=(if q.num<0 then [45]else [])++(dec q.num.natAbs++(if q.den=1 then []else 47::dec q.den))
def pv:List Nat→Nat
 |[]=>0
 |d::l=>d+1000000000*pv l
theorem abz:∀(l m:List Nat),pv (l++m)=pv l+1000000000^l.length*pv m
 |[],m=>by simp[pv]
 |d::l,m=>by
  simp only[fm,pv,di,c3,abz l m,bU];rw[b3 (1000000000^l.length) 1000000000,cg,jq]
theorem aoY(l:List Nat)(d m:Nat)(h:d+1000000000*m=a):pv (l++[d])+1000000000^(l++[d]).length*m=pv l+1000000000^l.length*a:=by
 rw[abz,←h,bt,gm,c3,bU];simp only[pv,fe,cO];rw[cg,jq]
variable{d:List Nat}
theorem aoX(h:a<d.length):pv (d.drop a)=d.getD a 0+1000000000*pv (d.drop (a+1)):=by
 rw[kr h];simp[pv,c_,h]
theorem agy(w p s:Nat)(b:s<9):w*10^(9-s)+p/10^s=10*(w*10^(9-(s+1))+p/10^(s+1))+p/10^s%10:=by
 have a:9-s=(9-(s+1))+1:=aa;rw[a,c3,c3,←nL,←cg];omega
end Go.aV
namespace Go.Proofs.YtddhncjmaahodaaGreatDoor
open Go.aE Go.aV
variable{c:ag}{d:List Nat}{a:Nat}{g:Nat}
theorem ajn{v:V}{k:IntKind}(h:bu c 1 v (bJ d) a)(q:g<d.length):∃b,dY none 1 [v,.int k (g:Int)]=some (.val (.ptr b g))∧c.get b=.cells (bJ d) a∧c.gh b a=true:=by
 generalize e:bJ d=t at h
 cases h with
 |nil=>
  have:=congrArg jD e;rw[gY,lR]at this;omega
 |cells i l j o m r p=>
  rename_i b n f;have s:n=d.length:=by rw[←e,gY]at m;omega
  refine⟨b,?_,i,yg l j⟩;rw[cR ⟨aa,aa⟩];simp
def zi(p w i:Nat)(e:V)(f:List Nat)(g3:Nat):Nat→Fr→ag→Prop:=fun k a b=>∃(s:Nat) (d:V) (c:Nat),k=s∧s≤9∧rd 3 a=e∧rd 8 a=ai (i:Int)∧rd 7 a=d∧rd 9 a=.int .u32 (((10^s/10:Nat)):Int)∧bu b 1 d (cn (ds (w*10^(9-s)+p/10^s))) c∧(ds (w*10^(9-s)+p/10^s)).length≤(ds w).length+(9-s)∧(c=0∨c≠g3)∧bu b 1 e (bJ f) g3∧g3<b.next
theorem agw(p w:Nat)(hp:p<1000000000)(i:Nat)(b Y:V)(bO:Nat)(F:Fr)(H:ag)(R:X→Fr→ag→Prop)(f:List Nat)(g3:Nat)(h3:bu H 1 b (bJ f) g3)(hi:i<f.length)(bj:f.getD i 0=p)
 (hw:(ds w).length+9≤1000000000) (h7:bu H 1 Y (cn (ds w)) bO) (bd:bO=0∨bO≠g3) (bb:g3<H.next) (a3:rd 3 F=b) (a4:rd 7 F=Y) (a5:rd 8 F=ai (i:Int)) (a6:rd 9 F=.int .u32 100000000)
 (hR:∀z A r q,rd 3 z=b→rd 8 z=ai (i:Int)→rd 7 z=r→bu A 1 r (cn (ds (p+1000000000*w))) q→(q=0∨q≠g3)→bu A 1 b (bJ f) g3→g3<A.next→R (.exit 4) z A):
 bT (.loop HU) R F H:=by
 refine bW (zi p w i b f g3) 9
  ⟨9,Y,bO,rfl,aR _,a3,a5,a4,by rw[a6];rfl,?_,?_,bd,h3,bb⟩ ?_
 ·rw[lV,mF,dQ,lT hp,cO];exact h7
 ·rw[lV,mF,dQ,lT hp,cO];exact aR _
 rintro k cb G ⟨s,r,q,rfl,hs,l,m,v,g,h,bc,D,B,ad⟩;unfold HU;cases k with
 |zero=>
  simp only[mF,show 1/10=0 from rfl,Nat.sub_zero,nM]at g h;simp(disch:=omega)only[go_sem,g,jn,df];refine hR _ _ r q ?_ ?_ ?_ ?_ D B ad
  iterate 3 simp only[go_sem,l,m,v]
  ·rw[show p+1000000000*w=w*10^9+p by rw[b3 w];omega];exact h
 |succ s=>
  have bs:10^(s+1)/10=10^s:=by rw[c3,td _ aj]
  have bv:0<10^s:=e8 aj;have bo:10^s≤10^8:=fN aj aa;have E:=agy w p s aa;rw[bs]at g;obtain⟨d,y⟩:∃d,d=10^s:=⟨_,rfl⟩;obtain⟨x,o⟩:∃x,x=p/d:=⟨_,rfl⟩;obtain⟨c,Z⟩:∃c,c=x%10:=⟨_,rfl⟩;have ab:c<10:=aa;obtain⟨u,hu⟩:∃u,u=w*10^(9-(s+1))+p/10^(s+1):=⟨_,rfl⟩;rw[←y]at g bv bo E;rw[←o,←Z,←hu]at E;rw[←hu]at h bc;obtain⟨a2,T,cu,l3⟩:=ajn (k:=.i64) B hi;have P:q4 false 1 i G a2 (.cells (bJ f) g3)=some (.int .u32 (p:Int)):=by rw[aaD l3,gO hi,bj]
  have ch:((d:Nat):Int)≠0:=aa;have ci:x<4294967296:=by rw[o];exact eH (g7 _ _) aa
  have N:((x:Nat):Int).tmod 10=(c:Int):=by rw[Z];rfl
  have S:aG .u8 (48+(c:Int))=((48+c:Nat):Int):=by rw[adk];omega
  have O:aG .u32 (48+(c:Int))=48+(c:Int):=gd _ aa;have C:=h.len aj;rw[iD,nM]at C;have bi:((d:Nat):Int).tdiv 10=((10^s/10:Nat):Int):=by rw[y];rfl
  have ce:(10:Int)≠0:=aj;have cf:10^s/10<4294967296:=by rw[←y];omega
  have ba:[V.int .u8 ((48+c:Nat):Int)]=cn [gG (48+c)]:=by
   simp only[cn,List.map_cons,List.map_nil];rw[UInt8.toNat_ofNat',(aa:(48+c)%2^8=48+c)]
  have done:∀(a:Fr) (j:ag) (t:V) (n:Nat),rd 3 a=b→rd 8 a=ai (i:Int)→rd 7 a=t→rd 9 a=.int .u32 (d:Int)→bu j 1 t (cn (ds (10*u+c))) n→(ds (10*u+c)).length≤(ds u).length+1→(n=0∨n≠g3)→bu j 1 b (bJ f) g3→g3<j.next→
   bT AY (e_ (nO (zi p w i b f g3) (s+1)) R) a j:=by
   intro a j t n I J a7 K aw al a0 ap a1;simp(disch:=assumption)only[go_sem,AY,K,iC,bi];rw[gd _ aa];refine⟨s,lU s,s,t,n,rfl,aa,?_,?_,?_,?_,?_,?_,a0,ap,a1⟩
   iterate 4 simp only[go_sem,I,J,a7]
   ·rw[←y,←o,E];exact aw
   ·rw[←y,←o,E];omega
  have append:ds (10*u+c)=ds u++[gG (48+c)]→∀(a:Fr),rd 3 a=b→rd 8 a=ai (i:Int)→rd 9 a=.int .u32 (d:Int)→
   gT (some 60) (j3 eW 5 [ex 7 (fq (rd 60))] (lX 5 (e_ (bT AY (e_ (nO (zi p w i b f g3) (s+1)) R)) (e_ (nO (zi p w i b f g3) (s+1)) R)) .norm)) a
    (ga 1 1 [r,.slice G.next 0 1 (.known 1)] (G.push (.cells [V.int .u8 ((48+c:Nat):Int)] 0))):=by
   intro he a I J K;refine Y2 h rfl ⟨by rw[iD];omega,aj⟩ fun t j n U W b1 b2=>?_
   have b':bu j 1 b (bJ f) g3:=B.other h (hD b2) b1 D;simp only[go_sem];refine done _ _ t n ?_ ?_ ?_ ?_ ?_ ?_ ?_ b' aa
   iterate 4 simp only[go_sem,I,J,K]
   ·rw[he];rw[ba]at U;unfold cn at U⊢;rw[List.map_append];exact U
   ·rw[he,bt];simp
   ·rcases W with⟨_,W⟩|⟨W,ca⟩
    ·right;omega
    ·rw[ca];exact D
  by_cases L:0<(ds u).length
  ·have be:u≠0:=fun e=>by rw[e,lf]at L;exact absurd L (Nat.lt_irrefl _)
   simp(disch:=omega)only[go_sem,AZ,g,l,m,v,dt,T,cu,P,iC,k_,qp,←o,gd,N,O,S,C];refine append (Bg u c ab (.inl be)) _ ?_ ?_ ?_
   iterate 3 simp only[go_sem,l,m,g]
  ·have Q:u=0:=m6 fun e=>L (vb.2 (Bf e))
   by_cases M:c=0
   ·simp(disch:=omega)only[go_sem,AZ,g,l,m,v,dt,df,T,cu,P,iC,k_,qp,←o,gd,N,O,S,C];refine done _ _ r q ?_ ?_ ?_ ?_ ?_ ?_ D B ad
    iterate 4 simp only[go_sem,l,m,v,g]
    ·rw[Q,M];rw[Q]at h;exact h
    ·rw[Q,M];exact Nat.le_succ _
   ·simp(disch:=omega)only[go_sem,AZ,g,l,m,v,dt,df,T,cu,P,iC,k_,qp,←o,gd,N,O,S,C];refine append (Bg u c ab (.inr M)) _ ?_ ?_ ?_
    iterate 3 simp only[go_sem,l,m,g]
theorem agu(a:List Nat)(d:Nat):bJ a++[V.int .u32 (d:Int)]=bJ (a++[d]):=by simp[bJ]
theorem aox(n k:Nat)(x:n<2^k)(L:k≤30000000)(F:Fr)(H:ag)(R:X→Fr→ag→Prop)(A:rd 3 F=.ak)(B:rd 4 F=mag (aU n))(G:H.next≠0)
 (I:∀o f v g b,rd 3 o=v→bu f 1 v (bJ b) g→pv b=n→(∀p∈b,p<1000000000)→b.length≤10000000→g<f.next→R (.exit 0) o f):
 bT (.loop HT) R F H:=by
 refine bW (fun j e i=>∃(m:Nat) (b:List Nat) (v:V) (g:Nat),j=m∧rd 3 e=v∧rd 4 e=mag (aU m)∧bu i 1 v (bJ b) g∧pv b+1000000000^b.length*m=n∧m*2^(29*b.length)≤n∧m≤n∧(∀p∈b,p<1000000000)∧b.length≤10000000∧g<i.next) n
  ⟨n,[],.ak,0,rfl,A,B,.nil,by simp[pv],aJ,aR _,(fun _ h=>by cases h),aJ,jP G⟩ ?_
 rintro j e i ⟨m,b,v,g,rfl,q,r,t,z,w,u,y,M,K⟩;unfold HT;by_cases c:j=0
 ·subst c;simp(disch:=omega)only[go_sem,r,q7,jn,df];refine I _ _ v g b ?_ t (by simpa using z) y M K;simp only[go_sem,q]
 ·have U:=q6 c;have P:dI j:=dI.of (eH u x) L;have s:=acI (aU j) 1000000000 (gy _) ⟨aj,aj⟩ (by have:=P.len;omega);rw[fz]at s;have T:29*b.length<k:=by
   refine(Nat.pow_lt_pow_iff_right (a:=2) aj).1 (eH ?_ x);refine cI ?_ w;exact Nat.le_mul_of_pos_left _ (jP c)
  simp(disch:=omega)only[go_sem,XC,r,dt];refine use s ?_;simp(disch:=omega)only[go_sem,Xv,q];refine Y2 t rfl ⟨by rw[gY];omega,aj⟩ fun Q S C l d W Y=>?_
  simp only[go_sem,Xu];have J:=Nat.mod_add_div j 1000000000;refine⟨j/1000000000,Nat.div_lt_self (jP c) aj,j/1000000000,b++[j%1000000000],Q,C,rfl,?_,?_,?_,?_,?_,?_,?_,?_,?_⟩
  iterate 2 simp only[go_sem]
  ·rw[←agu];exact l
  ·rw[aoY b _ _ J];exact z
  ·rw[bt,gm,bU,dQ,fX,←cg,rR];refine cI (dz _ ?_) w;have:2^29≤1000000000:=aj;have D:=fc (j/1000000000) this;have E:=vg j 1000000000;exact cI D E
  ·exact cI (g7 _ _) u
  ·intro p O;rcases gU.1 O with h|h
   ·exact y p h
   ·rw[dH.1 h];exact eK _ aj
  ·rw[bt,gm];omega
  ·rcases d with⟨_,d⟩|⟨_,d⟩
   ·generalize bJ b++[V.int .u32 ((j%1000000000:Nat):Int)]=Z at l
    cases l with
    |nil=>omega
    |cells _ _ _ _ _ N _=>exact N
   ·rw[d];omega
theorem amI(a:List Nat)(Q:∀p∈a,p<1000000000)(Y:a.length≤10000000)(c:V)(g3:Nat)(F:Fr)(H:ag)(R:X→Fr→ag→Prop)(I:bu H 1 c (bJ a) g3)(M:g3<H.next)(A:rd 3 F=c)(B:rd 7 F=.ak)(C:rd 8 F=ai ((a.length:Int)-1))
 (K:∀j l v g,rd 7 j=v→bu l 1 v (cn (ds (pv a))) g→R (.exit 2) j l):
 bT (.loop HV) R F H:=by
 refine bW (fun k b d=>∃(v:V) (g:Nat),rd 3 b=c∧rd 7 b=v∧rd 8 b=ai ((k:Int)-1)∧k≤a.length∧bu d 1 v (cn (ds (pv (a.drop k)))) g∧(ds (pv (a.drop k))).length≤9*(a.length-k)∧(g=0∨g≠g3)∧bu d 1 c (bJ a) g3∧g3<d.next) a.length
  ⟨.ak,0,A,B,C,aR _,?_,?_,.inl rfl,I,M⟩ ?_
 ·rw[i_ (aR _),show pv []=0 from rfl,lf];exact .nil
 ·rw[i_ (aR _),show pv []=0 from rfl,lf];simp
 rintro k b d ⟨v,g,D,n,o,W,r,Z,P,N,O⟩;unfold HV;cases k with
 |zero=>
  simp(disch:=omega)only[go_sem,o,dt];refine K _ _ v g ?_ r;simp only[go_sem,n]
 |succ i=>
  have q:rd 8 b=ai (i:Int):=by rw[o];congr 1;omega
  have e:i<a.length:=aa;have s:a.getD i 0<1000000000:=by
   refine Q _ ?_;rw[c_,cH e];exact u_ e
  have f:=aoX e;simp(disch:=omega)only[go_sem,XE,q,df];refine agw (a.getD i 0) (pv (a.drop (i+1))) s i c v g _ _ _ a g3 N e rfl aa r P O ?_ ?_ ?_ ?_ ?_
  iterate 4 simp only[go_sem,D,n,q]
  intro T U S E t x w m z u y;rw[←f]at m;rw[fu];have L:(ds (pv (a.drop i))).length≤9*(a.length-i):=by
   by_cases G:pv (a.drop (i+1))=0
   ·rw[f,G,fe,cO];have:=oO (n:=a.getD i 0) (k:=9) s;omega
   ·refine oO ?_;have ab:pv (a.drop (i+1))<10^(9*(a.length-(i+1))):=by
     refine rQ fun h=>?_
     have:=agT h;omega
    rw[f,(aa:9*(a.length-i)=9*(a.length-(i+1))+9),fX];have J:(10:Nat)^9=1000000000:=rfl;rw[J];omega
  simp(disch:=omega)only[go_sem,XD,x,aQ];refine⟨i,lU i,S,E,?_,?_,?_,aa,m,L,z,u,y⟩
  iterate 3 simp only[go_sem,t,w]
theorem Is(z:Int)(p:z.natAbs<2^a)(k:a≤30000000):bA 68 [cB z] (.str (dec z.natAbs)):=by
 refine cT (.cons (iR _) .nil) (.str _) (bg amk ?_);by_cases h:z.natAbs=0
 ·have d:(aU z.natAbs).length=0:=by rw[h];exact q7
  simp(disch:=omega)only[go_sem,HR,HS,cB,dJ,d,jn,decide_true];rw[h];rfl
 ·have d:=q6 h;simp(disch:=omega)only[go_sem,HR,HS,XB,XA,Xz,cB,dJ,df];refine aox z.natAbs a p k _ _ _ ?_ ?_ ?_ ?_
  iterate 2 simp only[go_sem]
  ·exact Nat.succ_ne_zero _
  intro r t v g q b c n m l i;have e:=c.len aj;rw[gY,nM]at e;rw[fu];simp(disch:=omega)only[go_sem,Xy,Xx,b,e,aQ];refine amI q m l v g _ _ _ c i ?_ ?_ ?_ ?_
  iterate 3 simp only[go_sem,b]
  intro s u x w f j;rw[fu];have o:=j.str;simp(disch:=omega)only[go_sem,Xw,f,o];rw[n];unfold dec;rw[au h]
theorem wH{s t:List UInt8}(h:s.length+t.length≤9223372036854775807):od (oP .add) [.str s,.str t]=some (.val (.str (s++t))):=by
 show bq (b8 (fW (cP s) (cP t)) 9223372036854775807) (some (bx.val (.str (ez s t))))=_;rw[iV,gx,gx,show(s.length.add t.length).ble 9223372036854775807=true from jf h];rfl
theorem y2(q:Rat)(e:bB a q)(g:a≤30000000):bA 22 [cJ q] (.str (bS q)):=by
 refine cT (.cons (iu _) .nil) (.str _) (bg aag ?_);have j:=Is q.num e.num g;have f:=Is (q.den:Int) (by rw[cV];exact e.den) g;rw[cV]at f;have m:=tN e.num;have n:=tN e.den;have h:od (oP .add) [.str [45],.str (dec q.num.natAbs)]=some (.val (.str ([45]++dec q.num.natAbs))):=wH (by simp;omega);have i:od (oP .add) [.str [47],.str (dec q.den)]=some (.val (.str ([47]++dec q.den))):=wH (by simp;omega);have k:od (oP .add) [.str ([45]++dec q.num.natAbs),.str ([47]++dec q.den)]=some (.val (.str (([45]++dec q.num.natAbs)++([47]++dec q.den)))):=wH (by simp;omega);have l:od (oP .add) [.str (dec q.num.natAbs),.str ([47]++dec q.den)]=some (.val (.str (dec q.num.natAbs++([47]++dec q.den)))):=wH (by simp;omega);simp only[go_sem,Fq,FC,cJ,bY,q3];refine use j ?_;by_cases d:q.num<0
 ·by_cases b:q.den=1
  ·have c:(aU (dd q)).length=0:=by rw[lZ b];exact q7
   simp(disch:=first|assumption|omega)only[tG,tF,tE,go_sem,↓reduceIte,kz,dt,df,c,h]
   simp[bS,d,b]
  ·have c:0<(aU (dd q)).length:=by rw[jh b];exact q6 q.den_nz
   simp(disch:=first|assumption|omega)only[tG,tF,tE,go_sem,↓reduceIte,kz,dt,h]
   rw[jh b,←Jv];refine use f ?_;simp only[go_sem,i,k];simp[bS,d,b]
 ·by_cases b:q.den=1
  ·have c:(aU (dd q)).length=0:=by rw[lZ b];exact q7
   simp(disch:=first|assumption|omega)only[tG,tF,tE,go_sem,↓reduceIte,kz,df,c]
   simp[bS,d,b]
  ·have c:0<(aU (dd q)).length:=by rw[jh b];exact q6 q.den_nz
   simp(disch:=first|assumption|omega)only[tG,tF,tE,go_sem,↓reduceIte,kz,dt,df]
   rw[jh b,←Jv];refine use f ?_;simp only[go_sem,i,l];simp[bS,d,b]
def XK:ah:=aB [af 3 0,af 4 0,aY 5 4,ex 6 (mn [(rd 5),(kc (ai 400))]),ex 7 (jk 1 false true false [(rd 3),(rd 6)]),ex 8 (cD [(0,1)] [.ak,(ai 0)] [(rd 7)]),b7 9 8,ao 2 9]
def XF:ah:=an [aP 2 .ie] XK
theorem fD:aZ Tryz.f7 7 XF [.tmp 2]:=bh
def XS:ah:=aB [af 3 0,af 4 0,ex 5 (bF 11 [(rd 4),(kc (ai 2))]),ex 6 (bi .add (kc (ai 1)) (rd 5)),ex 7 (bF 47 [(rd 3),(rd 6),(kc (ai 2))]),aF 5 2 7]
def XL:ah:=an [ex 2 (alloc [(ai 0),(ai 0),.ak,.ak,.ak])] XS
theorem lB:aZ Tryz.f8 8 XL [.cell 2 true 5]:=bh
def Nu:ah:=aB [af 33 5,af 34 1,bD 35 .rem 33 34,af 36 1,cU 37 35 36,af 38 1,bD 39 .rem 37 38,ao 4 39]
def Nv:ah:=an [af 26 0,ex 27 (ux (rd 26)),aA 28 1 27,aC 29 28,b9 30 29 1,ex 31 (ux (rd 26)),aA 32 1 31,aF 1 32 30] Nu
def Nw:ah:=an [af 16 0,ex 17 (ux (rd 16)),aA 18 0 17,aC 19 18,af 20 0,ex 21 (ux (rd 20)),aA 22 1 21,aC 23 22,aX 24 1 19 23,aC 25 24,ao 5 25] Nv
def Eb:ah:=bm [af 6 0,ex 7 (ux (rd 6)),aA 8 1 7,aC 9 8,af 10 0,ex 11 (ux (rd 10)),aA 12 0 11,aC 13 12,aY 14 13,bD 15 .geq 9 14] 15 (aB [bI 4 0]) Nw
def D2:ah:=an [bI 4 0] Eb
theorem oX:aZ Tryz.f11 11 D2 [.tmp 4]:=bh
def V3:ah:=aB [af 7 3,bk 8 36 7,af 9 0,ex 10 (bF 11 [(rd 9),(kc (ai 4))]),ex 11 (bi .add (kc (ai 1)) (rd 10)),bk 12 36 11,bf 13 35 8 12,aF 4 2 13]
def V4:ah:=an [af 4 0,ex 5 (bF 11 [(rd 4),(kc (ai 19))]),cL 6 5 9,ao 3 6] V3
def V2:ah:=an [ex 2 (alloc [aq,.ak,aq,.ak])] V4
theorem al3:aZ Tryz.f42 42 V2 [.cell 2 true 4]:=bh
def V9:ah:=.aH [af 20 8,cL 21 20 1,ao 8 21]
def V_:ah:=.seq (.block 1 (.aH [aA 22 3 7,aC 23 22,af 24 0,af 25 1,af 26 2,ex 27 (bF 98 [(rd 24),(rd 25),(rd 26),(kc (ai 2))]),ey 23 22,ex 28 (cW 1 [(0,2)] [(ai 0),.ak] [(rd 27)]),eo 29 2 32 23 28,aA 30 3 7,aF 1 30 29])) V9
def HF:ah:=.seq (an [af 18 8,bH 19 .gtr 18 0] (bl 19 .skip (.exit 0))) V_
def Wa:ah:=.aH [af 35 9,cL 36 35 1,ao 9 36]
def Wb:ah:=.seq (.block 3 (.aH [aA 37 4 7,aC 38 37,af 39 0,af 40 1,af 41 2,ex 42 (bF 98 [(rd 39),(rd 40),(rd 41),(kc (ai 2))]),ey 38 37,ex 43 (cW 1 [(0,2)] [(ai 0),.ak] [(rd 42)]),eo 44 2 32 38 43,aA 45 4 7,aF 1 45 44])) Wa
def HG:ah:=.seq (an [af 33 9,bH 34 .gtr 33 0] (bl 34 .skip (.exit 2))) Wb
def Wc:ah:=aB [aL 46 5 7,aF 5 6 46]
def Wd:ah:=.seq (an [af 31 0,ex 32 (bF 11 [(rd 31),(kc (ai 2))]),ao 9 32] (.block 2 (.loop HG))) Wc
def We:ah:=.seq (an [af 16 0,ex 17 (bF 11 [(rd 16),(kc (ai 3))]),ao 8 17] (.block 0 (.loop HF))) Wd
def Wf:ah:=an [af 10 1,af 11 0,af 12 1,af 13 2,ex 14 (bF 98 [(rd 11),(rd 12),(rd 13),(kc (ai 3))]),ex 15 (cD [(0,1),(1,2)] [(ai 0),(ai 0),.ak,.ak,.ak] [(rd 10),(rd 14)]),ex 7 (alloc [(ai 0),(ai 0),.ak,.ak,.ak]),aF 5 7 15] We
def V8:ah:=an [ex 6 (alloc [(ai 0),(ai 0),.ak,.ak,.ak])] Wf
theorem al5:aZ Tryz.f47 47 V8 [.cell 6 true 5]:=bh
def Wh:ah:=.aH [af 13 4,b9 14 13 1,ao 4 14]
def Wi:ah:=.seq (.block 1 (.aH [aA 15 1 3,aC 16 15,aA 17 1 1,aC 18 17,af 19 4,aX 20 5 18 19,aA 21 0 20,aL 22 4 21,ex 24 (cW 0 [] [(ai 0)] []),aA 25 1 1,aC 26 25,af 27 4,aX 28 5 26 27,aA 29 4 28,aC 30 29,bk 23 22 22,ey 16 15,ey 26 25,ey 30 29,eo 31 1 8 24 30,ey 16 15,ex 32 (cD [(0,1),(1,1)] [(.str []),.ak] [(rd 23),(rd 31)]),ex 33 (cW 1 [(0,2)] [(.str []),.ak] [(rd 32)]),eo 34 2 40 16 33,aA 35 1 3,aF 1 35 34])) Wh
def Wj:ah:=.seq (an [af 8 4,aA 9 1 1,aC 10 9,aY 11 10,cw 12 8 11] (bl 12 .skip (.exit 0))) Wi
def Wk:ah:=aB [aL 36 2 3,aF 2 2 36]
def Wl:ah:=.seq (an [bI 4 0] (.block 0 (.loop Wj))) Wk
def Wm:ah:=an [aA 5 0 1,aC 6 5,ex 7 (cD [(0,1)] [(ai 0),.ak] [(rd 6)]),ex 3 (alloc [(ai 0),.ak]),aF 2 3 7] Wl
def Wg:ah:=an [b7 1 0,ex 2 (alloc [(ai 0),.ak])] Wm
theorem al6:aZ Tryz.f49 49 Wg [.cell 2 true 2]:=bh
def Wo:ah:=.aH [af 9 4,b9 10 9 1,ao 4 10]
def Wp:ah:=.seq (.block 1 (.aH [af 11 3,af 12 0,af 13 4,aX 14 2 12 13,aL 15 2 14,bk 16 49 15,ex 17 (cW 1 [(0,2)] [(ai 0),.ak] [(rd 16)]),eo 18 2 32 11 17,ao 3 18])) Wo
def Wq:ah:=.seq (an [af 5 4,af 6 0,aY 7 6,cw 8 5 7] (bl 8 .skip (.exit 0))) Wp
def Wr:ah:=aB [af 19 3,ao 2 19]
def Ws:ah:=.seq (an [bI 4 0] (.block 0 (.loop Wq))) Wr
def Wt:ah:=an [aP 3 .ak] Ws
def Wn:ah:=an [aP 2 .ak] Wt
theorem al7:aZ Tryz.f50 50 Wn [.tmp 2]:=bh
def Wv:ah:=aB [af 11 0,ex 12 (bF 65 [(kc (ai 1))]),af 13 5,ex 14 (cD [(0,4),(4,1)] [aq,.ak,aq,.ak,.ak] [(rd 12),(rd 13)]),ex 15 (cW 1 [(0,5)] [aq,.ak,aq,.ak,.ak] [(rd 14)]),ex 16 (cD [(0,1),(1,1)] [(ai 0),.ak] [(rd 11),(rd 15)]),aF 2 4 16]
def Ww:ah:=an [af 8 5,af 9 1,aX 10 1 8 9,eP (st 1 (rd 10) (kc (ai 1)))] Wv
def Wx:ah:=an [af 6 0,ex 7 (ms 8 [(ai 0)] (rd 6) (rd 6)),ao 5 7] Ww
def Wu:ah:=an [ex 4 (alloc [(ai 0),.ak])] Wx
theorem al8:aZ Tryz.f51 51 Wu [.cell 4 true 2]:=bh
def Wz:ah:=aB [af 5 0,af 6 1,ex 7 (bi .mul (kc (ai 2)) (rd 6)),b9 8 7 1,bf 9 11 5 8,af 10 1,bD 11 .sub 9 10,bk 12 65 11,aF 4 4 12]
def Wy:ah:=an [ex 4 (alloc [aq,.ak,aq,.ak])] Wz
theorem al9:aZ Tryz.f52 52 Wy [.cell 4 true 4]:=bh
def WB:ah:=aB [af 3 0,ex 4 (bF 11 [(rd 3),(kc (ai 9))]),ex 5 (bi .add (kc (ai 1)) (rd 4)),bk 6 36 5,af 7 0,ex 8 (bF 11 [(rd 7),(kc (ai 4))]),ex 9 (bi .add (kc (ai 1)) (rd 8)),bk 10 36 9,bf 11 35 6 10,aF 4 2 11]
def WA:ah:=an [ex 2 (alloc [aq,.ak,aq,.ak])] WB
theorem al_:aZ Tryz.f53 53 WA [.cell 2 true 4]:=bh
def xX:ah:=.aH [af 18 8,b9 19 18 1,ao 8 19]
def Xe:ah:=.seq (.block 1 (.aH [af 20 7,aL 21 4 4,aA 22 1 5,aC 23 22,af 24 8,aX 25 5 23 24,aA 26 0 25,aL 27 4 26,aA 29 1 5,aC 30 29,af 31 8,aX 32 5 30 31,aA 33 4 32,aC 34 33,bf 28 38 21 27,ey 30 29,ey 34 33,ex 35 (cD [(0,4),(4,1)] [aq,.ak,aq,.ak,.ak] [(rd 28),(rd 34)]),ex 36 (cW 1 [(0,5)] [aq,.ak,aq,.ak,.ak] [(rd 35)]),eo 37 5 88 20 36,ao 7 37])) xX
def vE:ah:=.seq (an [af 13 8,aA 14 1 5,aC 15 14,aY 16 15,cw 17 13 16] (bl 17 .skip (.exit 0))) Xe
def HP:ah:=aB [aA 38 0 3,aC 39 38,af 40 7,bf 41 116 39 40,aF 2 6 41]
def Xf:ah:=.seq (an [bI 8 0] (.block 0 (.loop vE))) HP
def Xg:ah:=an [ex 9 (cW 0 [] [aq,.ak,aq,.ak,.ak] []),aA 10 1 3,aC 11 10,eo 12 5 88 9 11,ao 7 12] Xf
def Xd:ah:=an [b7 3 0,b7 4 1,b7 5 2,ex 6 (alloc [(ai 0),.ak])] Xg
theorem aas:aZ Tryz.f62 62 Xd [.cell 6 true 2]:=bh
def Xk:ah:=aB [af 5 0,aL 6 4 3,af 7 0,ex 8 (ms 8 [(ai 0)] (rd 7) (rd 7)),ex 9 (cD [(0,4),(4,1)] [aq,.ak,aq,.ak,.ak] [(rd 6),(rd 8)]),ex 10 (cW 1 [(0,5)] [aq,.ak,aq,.ak,.ak] [(rd 9)]),bf 11 116 5 10,aF 2 4 11]
def Xj:ah:=an [b7 3 1,ex 4 (alloc [(ai 0),.ak])] Xk
theorem amh:aZ Tryz.f64 64 Xj [.cell 4 true 2]:=bh
def X4:ah:=.aH [af 21 11,cL 22 21 1,ao 11 22]
def X5:ah:=.seq (.block 1 (.aH [af 23 10,af 24 0,bk 25 42 24,af 26 9,af 27 0,af 28 9,aY 29 28,bf 30 11 27 29,aX 31 1 26 30,aC 32 31,ex 33 (cD [(0,4),(4,1)] [aq,.ak,aq,.ak,.ak] [(rd 25),(rd 32)]),ex 34 (cW 1 [(0,5)] [aq,.ak,aq,.ak,.ak] [(rd 33)]),eo 35 5 88 23 34,ao 10 35])) X4
def H8:ah:=.seq (an [af 19 11,bH 20 .gtr 19 0] (bl 20 .skip (.exit 0))) X5
def X6:ah:=aB [af 36 1,af 37 10,bf 38 116 36 37,aF 2 8 38]
def X7:ah:=.seq (an [af 15 0,af 16 3,b9 17 16 1,bf 18 11 15 17,ao 11 18] (.block 0 (.loop H8))) X6
def X8:ah:=an [aP 10 .ak] X7
def X9:ah:=an [af 12 1,af 13 2,bf 14 153 12 13,ao 9 14] X8
def X3:ah:=an [ex 8 (alloc [(ai 0),.ak])] X9
theorem aav:aZ Tryz.f98 98 X3 [.cell 8 true 2]:=bh
def Na:ah:=.aH [af 50 9,b9 51 50 1,ao 9 51]
def Nb:ah:=.block 3 (an [aL 43 4 8,af 44 5,af 45 9,aX 46 5 44 45,aA 47 0 46,aL 48 4 47,bf 49 37 43 48,aF 4 8 49] Na)
def D8:ah:=.seq (an [af 25 9,af 26 5,aY 27 26,cw 28 25 27,af 29 28,bG 29 true 30 5,bG 29 true 31 7,aN 29 true 32 (dX none 5 (rd 30) (rd 31)),c6 29 true 33 4 32,c9 29 true 34 33,bG 29 true 35 5,bG 29 true 36 9,aN 29 true 37 (dX none 5 (rd 35) (rd 36)),c6 29 true 38 4 37,c9 29 true 39 38,aN 29 true 40 (bF 183 [(rd 34),(rd 39)]),ef 29 true 41 .eql 40 0,dM 42 29 41] (bl 42 .skip (.exit 2))) Nb
def D9:ah:=.aH [af 67 9,ao 7 67]
def Ng:ah:=bm [aL 52 4 8,bk 53 91 52,bH 54 .neq 53 0] 54 (.aH [aA 55 1 6,aC 56 55,aL 57 4 8,af 58 5,af 59 7,aX 60 5 58 59,aA 61 4 60,aC 62 61,ex 63 (cD [(0,4),(4,1)] [aq,.ak,aq,.ak,.ak] [(rd 57),(rd 62)]),ex 64 (cW 1 [(0,5)] [aq,.ak,aq,.ak,.ak] [(rd 63)]),eo 65 5 88 56 64,aA 66 1 6,aF 1 66 65]) D9
def Nh:ah:=.seq (.block 2 (.loop D8)) Ng
def Ni:ah:=an [af 23 7,b9 24 23 1,ao 9 24] Nh
def Nj:ah:=.block 1 (an [af 18 5,af 19 7,aX 20 5 18 19,aA 21 0 20,aL 22 4 21,ex 8 (alloc [aq,.ak,aq,.ak]),aF 4 8 22] Ni)
def D_:ah:=.seq (an [af 14 7,af 15 5,aY 16 15,cw 17 14 16] (bl 17 .skip (.exit 0))) Nj
def Nk:ah:=aB [aL 68 2 6,aF 2 4 68]
def Nc:ah:=.seq (an [bI 7 0] (.block 0 (.loop D_))) Nk
def Nd:ah:=an [af 12 0,ex 13 (cD [(0,1)] [(ai 0),.ak] [(rd 12)]),ex 6 (alloc [(ai 0),.ak]),aF 2 6 13] Nc
def Nf:ah:=an [af 10 1,bk 11 182 10,ao 5 11] Nd
def M_:ah:=an [ex 4 (alloc [(ai 0),.ak])] Nf
theorem akm:aZ Tryz.f116 116 M_ [.cell 4 true 2]:=bh
def xN:ah:=bl 57 (an [af 58 5,af 59 3,af 60 6,aX 61 5 59 60,aL 62 5 61,ex 63 (cW 1 [(0,5)] [aq,.ak,aq,.ak,.ak] [(rd 62)]),eo 64 5 88 58 63,ao 5 64] (.aH [af 65 6,b9 66 65 1,ao 6 66])) (an [af 67 5,af 68 4,af 69 7,aX 70 5 68 69,aL 71 5 70,ex 72 (cW 1 [(0,5)] [aq,.ak,aq,.ak,.ak] [(rd 71)]),eo 73 5 88 67 72,ao 5 73] (.aH [af 74 7,b9 75 74 1,ao 7 75]))
def zP:ah:=.block 1 (an [af 34 7,af 35 4,aY 36 35,bD 37 .eql 34 36,af 38 37,bG 38 false 39 6,bG 38 false 40 3,aN 38 false 41 (fF (rd 40)),aN 38 false 42 (bi .lss (rd 39) (rd 41)),bG 38 false 43 42,bG 43 true 44 3,bG 43 true 45 6,aN 43 true 46 (dX none 5 (rd 44) (rd 45)),c6 43 true 47 4 46,c9 43 true 48 47,bG 43 true 49 4,bG 43 true 50 7,aN 43 true 51 (dX none 5 (rd 49) (rd 50)),c6 43 true 52 4 51,c9 43 true 53 52,aN 43 true 54 (bF 183 [(rd 48),(rd 53)]),ef 43 true 55 .geq 54 0,aN 38 false 56 (pick (rd 43) (rd 55) (kc aq)),en 57 38 56] xN)
def E4:ah:=.seq (an [af 24 6,af 25 3,aY 26 25,cw 27 24 26,af 28 27,bG 28 false 29 7,bG 28 false 30 4,aN 28 false 31 (fF (rd 30)),aN 28 false 32 (bi .lss (rd 29) (rd 31)),en 33 28 32] (bl 33 .skip (.exit 0))) zP
def PG:ah:=aB [af 76 5,ao 2 76]
def PI:ah:=.seq (.block 0 (.loop E4)) PG
def PJ:ah:=an [bI 6 0,bI 7 0] PI
def PK:ah:=an [aP 5 .ak] PJ
def PL:ah:=an [af 12 0,af 13 0,aY 14 13,bH 15 .quo 14 2,ex 16 (jk 5 false true false [(rd 12),(rd 15)]),af 18 0,af 19 0,aY 20 19,bH 21 .quo 20 2,ex 22 (jk 5 true false false [(rd 18),(rd 21)]),bk 17 182 16,bk 23 182 22,ao 3 17,ao 4 23] PK
def E5:ah:=bm [af 8 0,aY 9 8,bH 10 .lss 9 2] 10 (aB [af 11 0,ao 2 11]) PL
def E3:ah:=an [aP 2 .ak] E5
theorem akV:aZ Tryz.f182 182 E3 [.tmp 2]:=bh
def PN:ah:=.aH [af 13 7,b9 14 13 1,ao 7 14]
def PO:ah:=.seq (.block 1 (.aH [af 15 5,af 16 0,af 17 7,aX 18 1 16 17,aC 19 18,cU 20 15 19,af 21 6,af 22 1,af 23 7,aX 24 1 22 23,aC 25 24,cU 26 21 25,ao 5 20,ey 25 24,ao 6 26])) PN
def PS:ah:=.seq (an [af 9 7,af 10 0,aY 11 10,cw 12 9 11] (bl 12 .skip (.exit 0))) PO
def PT:ah:=.aH [af 38 8,cL 39 38 1,ao 8 39]
def zQ:ah:=.seq (.block 3 (an [af 40 0,af 41 8,aX 42 1 40 41,aC 43 42,af 44 1,af 45 8,aX 46 1 44 45,aC 47 46,bD 48 .neq 43 47] (bl 48 (bm [af 49 0,af 50 8,aX 51 1 49 50,aC 52 51,af 53 1,af 54 8,aX 55 1 53 54,aC 56 55,bD 57 .gtr 52 56] 57 (aB [ex 4 (fq (kc (ai (-1))))]) (aB [bI 4 1])) .skip))) PT
def PU:ah:=.seq (an [af 36 8,bH 37 .geq 36 0] (bl 37 .skip (.exit 2))) zQ
def PV:ah:=aB [bI 4 0]
def PW:ah:=.seq (an [af 33 0,aY 34 33,cL 35 34 1,ao 8 35] (.block 2 (.loop PU))) PV
def zR:ah:=bm [af 27 5,af 28 6,bD 29 .neq 27 28] 29 (bm [af 30 5,af 31 6,cw 32 30 31] 32 (aB [ex 4 (fq (kc (ai (-1))))]) (aB [bI 4 1])) PW
def PX:ah:=.seq (an [bI 7 0] (.block 0 (.loop PS))) zR
def PR:ah:=an [bI 5 0,bI 6 0] PX
def PM:ah:=an [bI 4 0] PR
theorem akW:aZ Tryz.f183 183 PM [.tmp 4]:=bh
def H9:ah:=aB [ex 3 (cW 0 [] [(.str [])] []),aA 4 0 1,aC 5 4,aA 8 1 1,aL 9 2 8,aA 11 3 1,aC 12 11,aA 14 4 1,aC 15 14,bk 6 48 5,cQ 9 2 8,ey 12 11,ey 15 14,eo 7 1 16 3 6,cQ 9 2 8,ey 12 11,ey 15 14,bk 10 49 9,ey 12 11,ey 15 14,bk 13 50 12,ey 15 14,bk 16 50 15,ex 17 (cD [(0,1),(1,2),(3,1),(4,1)] [.ak,(ai 0),.ak,.ak,.ak] [(rd 7),(rd 10),(rd 13),(rd 16)]),aF 5 2 17]
def HZ:ah:=an [b7 1 0,ex 2 (alloc [.ak,(ai 0),.ak,.ak,.ak])] H9
theorem mb:aZ Tryz.f9 9 HZ [.cell 2 true 5]:=bh
end Go.Proofs.YtddhncjmaahodaaGreatDoor
namespace Go.aV
def rl:List Nat→List Nat→Int
 |x::a,y::b=>if x=y then rl a b else if y<x then-1 else 1
 |[],[]=>0
 |[],_::_=>1
 |_::_,[]=> -1
def ord(a b:List Nat):Int:=if a.sum=b.sum then rl a.reverse b.reverse else if a.sum<b.sum then-1 else 1
theorem ab7:∀a b,rl b a= -rl a b
 |[],[]=>rfl
 |[],_::_=>rfl
 |_::_,[]=>rfl
 |x::a,y::b=>by
  simp only[rl];by_cases h:x=y
  ·subst h;simp[ab7 a b]
  ·rw[au h,au (fun e=>h e.symm)];by_cases c:y<x
   ·rw[ay c,au aa];rfl
   ·rw[au c,ay aa]
theorem ab9:∀ {a b:List Nat},rl a b=0→a=b
 |[],[],_=>rfl
 |[],_::_,h=>by cases h
 |_::_,[],h=>by cases h
 |x::a,y::b,h=>by
  simp only[rl]at h;by_cases e:x=y
  ·rw[ay e]at h;rw[e,ab9 h]
  ·rw[au e]at h;split at h<;>cases h
theorem apL(a b:List Nat):rl a b= -1∨rl a b=0∨rl a b=1:=by
 induction a generalizing b with
 |nil=>cases b with
  |nil=>exact .inr (.inl rfl)
  |cons y b=>exact .inr (.inr rfl)
 |cons x a c=>
  cases b with
  |nil=>exact .inl rfl
  |cons y b=>
   simp only[rl];split
   ·exact c b
   ·split
    ·exact .inl rfl
    ·exact .inr (.inr rfl)
theorem ab8:∀ {a b c:List Nat},0≤rl a b→0≤rl b c→0≤rl a c
 |[],[],_,_,h=>h
 |[],_::_,[],_,h=>by simp[rl]at h
 |[],_::_,_::_,_,_=>by simp[rl]
 |_::_,[],_,h,_=>by simp[rl]at h
 |_::_,_::_,[],_,h=>by simp[rl]at h
 |x::a,y::b,z::c,f,d=>by
  simp only[rl]at*;by_cases g:x=y
  ·subst g;rw[ay rfl]at f;by_cases e:x=z
   ·subst e;rw[ay rfl]at d⊢;exact ab8 f d
   ·rw[au e]at d⊢;exact d
  ·rw[au g]at f;have i:x<y:=by
    by_cases h:y<x
    ·rw[ay h]at f;exact absurd f aj
    ·omega
   by_cases e:y=z
   ·subst e;rw[au g,au aa];decide
   ·rw[au e]at d;have j:y<z:=by
     by_cases h:z<y
     ·rw[ay h]at d;exact absurd d aj
     ·omega
    rw[au aa,au aa];decide
theorem JP(a b:List Nat):ord b a= -ord a b:=by
 unfold ord;by_cases h:a.sum=b.sum
 ·rw[ay h,ay h.symm,ab7]
 ·rw[au h,au (fun e=>h e.symm)];by_cases c:a.sum<b.sum
  ·rw[ay c,au aa];rfl
  ·rw[au c,ay aa]
variable{d:List Nat}
theorem aon{b:List Nat}(h:ord d b=0):d=b:=by
 unfold ord at h;split at h
 ·have:=ab9 h;simpa using this
 ·split at h<;>cases h
theorem abo(a b:List Nat):ord a b= -1∨ord a b=0∨ord a b=1:=by
 unfold ord;split
 ·exact apL _ _
 ·split
  ·exact .inl rfl
  ·exact .inr (.inr rfl)
theorem aom{b c:List Nat}(f:0≤ord d b)(a:0≤ord b c):0≤ord d c:=by
 unfold ord at*;by_cases g:d.sum=b.sum
 ·rw[ay g]at f;by_cases e:b.sum=c.sum
  ·rw[ay e]at a;rw[ay (g.trans e)];exact ab8 f a
  ·rw[au e]at a;rw[au aa,g];exact a
 ·rw[au g]at f;have:b.sum<d.sum:=by
   by_cases h:d.sum<b.sum
   ·rw[ay h]at f;exact absurd f aj
   ·omega
  have i:c.sum≤b.sum:=by
   by_cases e:b.sum=c.sum
   ·omega
   ·rw[au e]at a;by_cases h:b.sum<c.sum
    ·rw[ay h]at a;exact absurd a aj
    ·omega
  rw[au aa,au aa];decide
abbrev aI:=Rat×List Nat
def g5(a b:aI):Bool:=decide (0≤ord a.2 b.2)
def hM(l:List aI):List aI:=if _:l.length<2 then l else qF (hM (l.take (l.length/2))) (hM (l.drop (l.length/2))) g5
termination_by l.length
decreasing_by
 ·rw[ep];omega
 ·rw[gF];omega
variable{l:List aI}
theorem wS(h:l.length<2):hM l=l:=by rw[hM];simp[h]
theorem CD(h:¬l.length<2):hM l=qF (hM (l.take (l.length/2))) (hM (l.drop (l.length/2))) g5:=by rw[hM];simp[h]
theorem yS(l:List aI):(hM l).Perm l:=by
 induction d:l.length using jb generalizing l with
 |ind n a=>
  subst d;by_cases h:l.length<2
  ·rw[wS h]
  ·rw[CD h];refine(List.merge_perm_append g5).trans ?_;have b:=a _ (by rw[ep];omega) (l.take (l.length/2)) rfl;have c:=a _ (by rw[gF];omega) (l.drop (l.length/2)) rfl;have:=b.append c;rwa[oC]at this
theorem wR(l:List aI):(hM l).length=l.length:=(yS l).length_eq
theorem aq4(a b c:aI)(d:g5 a b=true)(e:g5 b c=true):g5 a c=true:=by
 simp only[g5,decide_eq_true_eq]at*;exact aom d e
theorem aq3(a b:aI):(g5 a b||g5 b a)=true:=by
 simp only[g5,pE,decide_eq_true_eq];rw[JP a.2 b.2];rcases abo a.2 b.2 with h|h|h<;>rw[h]<;>simp
theorem aqI(l:List aI):(hM l).Pairwise fun a b=>g5 a b=true:=by
 induction d:l.length using jb generalizing l with
 |ind n c=>
  subst d;by_cases h:l.length<2
  ·rw[wS h]
   match l,h with
   |[],_=>exact .nil
   |[a],_=>simp
  ·rw[CD h];exact List.pairwise_merge aq4 aq3 _ _ (c _ (by rw[ep];omega) _ rfl) (c _ (by rw[gF];omega) _ rfl)
def f_(c:Rat)(e:List Nat):List aI→Rat×List aI
 |[]=>(c,[])
 |t::l=>if ord e t.2=0 then f_ (c+t.1) e l else(c,t::l)
theorem xu(c:Rat)(e:List Nat)(l:List aI):(f_ c e l).2.length≤l.length:=by
 induction l generalizing c with
 |nil=>exact aR _
 |cons t l a=>
  unfold f_;split
  ·exact cI (a _) (Nat.le_succ _)
  ·exact aR _
def b5(l:List aI):List aI:=match l with
 |[]=>[]
 |t::l=>if(f_ t.1 t.2 l).1.num≠0 then((f_ t.1 t.2 l).1,t.2)::b5 (f_ t.1 t.2 l).2 else b5 (f_ t.1 t.2 l).2
termination_by l.length
decreasing_by
 all_goals
  have:=xu t.1 t.2 l;simp only[di];omega
theorem vZ:b5 []=[]:=by rw[b5]
theorem uc(t:aI)(l:List aI):b5 (t::l)=if(f_ t.1 t.2 l).1.num≠0 then((f_ t.1 t.2 l).1,t.2)::b5 (f_ t.1 t.2 l).2 else b5 (f_ t.1 t.2 l).2:=by rw[b5]
def jy(l:List aI):List aI:=b5 (hM l)
def Canon(l:List aI):Prop:=(l.Pairwise fun a b=>ord a.2 b.2=1)∧∀t∈l,t.1.num≠0
variable{y:Rat}
theorem zu{t:aI}(h:t∈(f_ y d l).2):t∈l:=by
 induction l generalizing y with
 |nil=>exact h
 |cons u l a=>
  unfold f_ at h;split at h
  ·exact List.mem_cons_of_mem _ (a h)
  ·exact h
theorem adQ(c:Rat)(e:List Nat)(l:List aI):∃m,l=m++(f_ c e l).2:=by
 induction l generalizing c with
 |nil=>exact⟨[],rfl⟩
 |cons u l b=>
  unfold f_;split
  ·obtain⟨m,a⟩:=b (c+u.1);exact⟨u::m,by rw[fm,←a]⟩
  ·exact⟨[],rfl⟩
theorem adO{t:aI}{m:List aI}(h:(f_ y d l).2=t::m):ord d t.2≠0:=by
 induction l generalizing y with
 |nil=>cases h
 |cons u l b=>
  unfold f_ at h;split at h
  ·exact b h
  ·rename_i a;have h:u::l=t::m:=h;cases h;exact a
theorem ZX{t:aI}(h:t∈b5 l):∃u∈l,t.2=u.2:=by
 induction d:l.length using jb generalizing l with
 |ind n e=>
  subst d;cases l with
  |nil=>rw[vZ]at h;cases h
  |cons u l=>
   have f:=xu u.1 u.2 l;have a:t∈b5 (f_ u.1 u.2 l).2→∃v∈u::l,t.2=v.2:=fun h=>by
    obtain⟨v,b,c⟩:=e _ (by simp only[di];omega) h rfl;exact⟨v,List.mem_cons_of_mem _ (zu b),c⟩
   rw[uc]at h;split at h
   ·rcases gL.1 h with h|h
    ·exact⟨u,aJ,by rw[h]⟩
    ·exact a h
   ·exact a h
theorem abn{b:List Nat}(h:0≤ord d b)(a:ord d b≠0):ord d b=1:=by
 rcases abo d b with e|e|e
 ·rw[e]at h;exact absurd h aj
 ·exact absurd e a
 ·exact e
theorem aiv(h:l.Pairwise fun a b=>g5 a b=true):Canon (b5 l):=by
 induction q:l.length using jb generalizing l with
 |ind n z=>
  subst q;cases l with
  |nil=>rw[vZ];exact⟨.nil,fun _ h=>by cases h⟩
  |cons u l=>
   have A:=xu u.1 u.2 l;rw[rM]at h;obtain⟨m,p⟩:=adQ u.1 u.2 l;have f:(f_ u.1 u.2 l).2.Pairwise fun a b=>g5 a b=true:=by
    have:=h.2;rw[p]at this;exact(List.pairwise_append.1 this).2.1
   have g:=z _ (by simp only[di];omega) f rfl;rw[uc];split
   ·rename_i k;refine⟨rM.2 ⟨fun t ht=>?_,g.1⟩,fun t ht=>?_⟩
    ·obtain⟨v,hv,e⟩:=ZX ht;have o:0≤ord u.2 v.2:=by simpa [g5]using h.1 v (zu hv)
     show ord u.2 t.2=1;rw[e];refine abn o fun d=>?_
     have s:=aon d;cases c:(f_ u.1 u.2 l).2 with
     |nil=>rw[c]at hv;cases hv
     |cons x r=>
      have i:=adO c;rw[c]at hv f;rcases gL.1 hv with j|hv
      ·rw[j]at d;exact i d
      ·have y:0≤ord x.2 v.2:=by simpa [g5]using(rM.1 f).1 v hv
       have w:0≤ord u.2 x.2:=by simpa [g5]using h.1 x (zu (by rw[c];simp))
       rw[←s,JP]at y;have:=abn w i;omega
    ·rcases gL.1 ht with e|ht
     ·rw[e];exact k
     ·exact g.2 t ht
   ·exact g
theorem aoK(l:List aI):Canon (jy l):=aiv (aqI l)
theorem aoO{t:aI}(h:t∈jy l):∃u∈l,t.2=u.2:=by
 obtain⟨u,a,b⟩:=ZX h;exact⟨u,(yS l).mem_iff.1 a,b⟩
variable{a:Nat}{g:Nat}
theorem adP(b:bB g y)(c:∀t∈l,bB a t.1):bB (g+(a+1)*l.length) (f_ y d l).1:=by
 induction l generalizing y g with
 |nil=>simpa [f_]using b
 |cons u l h=>
  unfold f_;split
  ·have e:=b.add (c u aJ);have:=h e (fun t f=>c t (by simp[f]));refine this.mono ?_;rw[di,bU];omega
  ·exact b.mono aa
theorem aix{l:List aI}(b:∀t∈l,bB a t.1)(c:l.length≤g):∀t∈b5 l,bB ((a+1)*g) t.1:=by
 induction f:l.length using jb generalizing l with
 |ind m i=>
  subst f;cases l with
  |nil=>rw[vZ];intro t h;cases h
  |cons u l=>
   have j:=xu u.1 u.2 l;have d:=i _ (by simp only[di];omega) (l:=(f_ u.1 u.2 l).2) (fun t ht=>b t (List.mem_cons_of_mem _ (zu ht))) (by simp at c;omega) rfl;intro t ht;rw[uc]at ht;split at ht
   ·rcases gL.1 ht with e|ht
    ·rw[e];refine(adP (b u aJ) (fun t ht=>b t (by simp[ht]))).mono ?_;simp only[di]at c;have:=fc (a+1) c;rw[bU]at this;omega
    ·exact d t ht
   ·exact d t ht
theorem aoP{k:Nat}(a:∀t∈l,bB k t.1):∀t∈jy l,bB ((k+1)*l.length) t.1:=
 aix (fun t b=>a t ((yS l).mem_iff.1 b)) (Nat.le_of_eq (wR l))
theorem aiw(l:List aI):(b5 l).length≤l.length:=by
 induction a:l.length using jb generalizing l with
 |ind n b=>
  subst a;cases l with
  |nil=>rw[vZ];exact aR _
  |cons u l=>
   have c:=xu u.1 u.2 l;have d:=b _ (by simp only[di];omega) (f_ u.1 u.2 l).2 rfl;rw[uc];split
   ·simp only[di];omega
   ·simp only[di];omega
theorem aoM(l:List aI):(jy l).length≤l.length:=by
 have:=aiw (hM l);rwa[wR]at this
end Go.aV
namespace Go.Proofs.YtddhncjmaahodaaGreatDoor
open Go.aE Go.aV
def cY(e:List Nat):List V:=e.map fun n:Nat=>V.int .i64 (n:Int)
def cG(e:List Nat):V:=.row e.length (cY e)
theorem jG(e:List Nat):(cY e).length=e.length:=by simp[cY]
variable{d:List Nat}{a:Nat}
theorem qg(h:a<d.length):eu (cY d) a=some (ai ((d.getD a 0:Nat):Int)):=by
 rw[iW];simp[cY,h]
theorem IP(l:List Nat):cM (cY l):=cM.iff.2 fun v h=>by
 simp only[cY,nc]at h;obtain⟨d,_,rfl⟩:=h;exact .int _ _
theorem oQ(l:List Nat):bZ (cG l):=.row _ (IP l)
@[go_sem]theorem avb(l:List Nat):eC (cG l)=some (.val (ai (l.length:Int))):=rfl
@[go_sem]theorem auS(l:List Nat):bP (cG l)=true:=rfl
@[go_sem]theorem auf(l:List Nat):cellsOf (cG l)=[cG l]:=rfl
@[go_sem]theorem avI(l:List Nat):V.one (cG l)=true:=rfl
theorem qb{l:List Nat}{i:Int}{k:IntKind}(h:0≤i∧i<l.length):dY none 1 [cG l,.int k i]=some (.val (.dm (cY l) i.toNat)):=by
 rw[cG,lz h,dQ]
theorem yV{l:List Nat}{i:Nat}(h:i<l.length):(l.take (i+1)).sum=(l.take i).sum+l.getD i 0:=by
 rw[jZ h,List.sum_append];simp[c_,h]
theorem yU(l:List Nat)(i:Nat):(l.take i).sum≤l.sum:=by
 have:=congrArg List.sum (oC i l);rw[List.sum_append]at this;omega
theorem Ch(h:a<d.length):(d.take (a+1)).reverse=d.getD a 0::(d.take a).reverse:=by
 rw[jZ h];simp[c_,h]
theorem abp(a b:List Nat)(J:a.length=b.length)(K:a.length≤1000000000)(F:a.sum≤1000000000000)(G:b.sum≤1000000000000):bA 183 [cG a,cG b] (ai (ord a b)):=by
 refine cT (.cons (oQ _) (.cons (oQ _) .nil)) (.int _ _) (bg akW ?_);simp only[go_sem,PM,PR,PX];refine bW (fun k c r=>∃i:Nat,rd 0 c=cG a∧rd 1 c=cG b∧rd 5 c=ai (((a.take i).sum:Nat):Int)∧rd 6 c=ai (((b.take i).sum:Nat):Int)∧rd 7 c=ai (i:Int)∧k=a.length-i∧i≤a.length) a.length ⟨0,?_,?_,?_,?_,?_,rfl,ck _⟩ ?_
 iterate 2 simp only[go_sem]
 ·simp only[go_sem,nK];rfl
 ·simp only[go_sem,nK];rfl
 ·simp only[go_sem];rfl
 rintro k c r ⟨i,e,p,f,g,m,rfl,H⟩;unfold PS;by_cases y:i<a.length
 ·have D:=yU a (i+1);have E:=yU b (i+1);have d:=yV y;have x:=yV (l:=b) (i:=i) aa;simp(disch:=omega)only[go_sem,PO,PN,e,p,f,g,m,dt,qb,bN,qg,aQ,true_and];refine⟨a.length-(i+1),aa,i+1,?_,?_,?_,?_,?_,rfl,aa⟩
  iterate 2 simp only[go_sem,e,p]
  ·simp only[go_sem];rw[d];rfl
  ·simp only[go_sem];rw[x];rfl
  ·simp only[go_sem];rfl
 ·have z:i=a.length:=aa;subst z;rw[cq (aR _)]at f;rw[cq aa]at g;by_cases u:a.sum=b.sum
  ·simp(disch:=omega)only[go_sem,zR,PW,e,f,g,m,dt,df,aQ];have n:ord a b=rl a.reverse b.reverse:=ay u;refine bW (fun k c r=>rd 0 c=cG a∧rd 1 c=cG b∧rd 8 c=ai ((k:Int)-1)∧k≤a.length∧rl (a.take k).reverse (b.take k).reverse=ord a b) a.length ⟨?_,?_,?_,aR _,?_⟩ ?_
   iterate 3 simp only[go_sem,e,p]
   ·rw[cq (aR _),cq aa,n]
   rintro k w C ⟨l,d,s,I,h⟩;unfold PU;cases k with
   |zero=>
    simp(disch:=omega)only[go_sem,PV,s,dt];rw[←h];rfl
   |succ j=>
    have o:rd 8 w=ai (j:Int):=by rw[s];congr 1;omega
    have A:j<a.length:=aa;have B:j<b.length:=aa;rw[Ch A,Ch B]at h;by_cases q:a.getD j 0=b.getD j 0
    ·simp(disch:=omega)only[go_sem,zQ,PT,l,d,o,dt,df,qb,bN,qg,aQ];refine⟨j,lU j,?_,?_,?_,aa,?_⟩
     iterate 3 simp only[go_sem,l,d]
     ·rw[←h];simp only[rl];rw[ay q]
    ·by_cases v:b.getD j 0<a.getD j 0
     ·simp(disch:=omega)only[go_sem,zQ,l,d,o,dt,df,qb,bN,qg];rw[←h];simp only[rl];rw[au q,ay v]
     ·simp(disch:=omega)only[go_sem,zQ,l,d,o,df,qb,bN,qg];rw[←h];simp only[rl];rw[au q,au v]
  ·have n:ord a b=if a.sum<b.sum then-1 else 1:=au u
   by_cases t:a.sum<b.sum
   ·simp(disch:=omega)only[go_sem,zR,e,f,g,m,dt,df];rw[n,ay t]
   ·simp(disch:=omega)only[go_sem,zR,e,f,g,m,df];rw[n,au t]
def ij(t:aI):List V:=[.bool (decide (t.1.num<0)),mag (aU t.1.num.natAbs),aq,mag (aU (dd t.1)),cG t.2]
def dP:List aI→List V
 |[]=>[]
 |t::l=>ij t++dP l
def bV(l:List aI):V:=.row l.length (dP l)
theorem ahG(t:aI):cM (ij t):=.cons (.bool _) (.cons (jt _) (.cons (.bool _) (.cons (jt _) (.cons (oQ _) .nil))))
variable{b:List V}
theorem nY{a:List V}(c:cM b)(d:cM a):cM (b++a):=cM.iff.2 fun v h=>by
 rcases gU.1 h with h|h
 ·exact cM.iff.1 c v h
 ·exact cM.iff.1 d v h
theorem Zp:∀l,cM (dP l)
 |[]=>.nil
 |t::l=>nY (ahG t) (Zp l)
theorem tX(l:List aI):bZ (bV l):=.row _ (Zp l)
theorem qq:∀l,(dP l).length=l.length*5
 |[]=>rfl
 |t::l=>by
  simp only[dP,bt,qq l,di];have:(ij t).length=5:=rfl;omega
theorem wV:∀(l m:List aI),dP (l++m)=dP l++dP m
 |[],_=>rfl
 |t::l,m=>by simp only[fm,dP,wV l m,eG]
theorem aq8(l:List aI)(i:Nat):(dP l).take (i*5)=dP (l.take i):=by
 induction l generalizing i with
 |nil=>simp[dP]
 |cons t l a=>
  cases i with
  |zero=>simp[dP]
  |succ i=>
   rw[pO,iy];show(ij t++dP l).take ((ij t).length+i*5)=ij t++dP (l.take i);rw[List.take_length_add_append,a]
theorem CL(l:List aI)(i:Nat):(dP l).drop (i*5)=dP (l.drop i):=by
 induction l generalizing i with
 |nil=>simp[dP]
 |cons t l a=>
  cases i with
  |zero=>simp[dP]
  |succ i=>
   rw[pO,iy];show(ij t++dP l).drop ((ij t).length+i*5)=dP (l.drop i);rw[List.drop_length_add_append,a]
variable{l:List aI}
theorem acZ{t:aI}(h:l[a]? =some t):cF (eA (dP l) (a*5)) 5=some (ij t):=by
 obtain⟨b,rfl⟩:=fo.1 h;rw[jT,CL,kr b];show cF (ij l[a]++dP _) 5=_;rw[eR,ay (by simp[ij])];rfl
theorem KC{t:aI}(h:l[a]? =some t):cF (eA (dP l) (a*5)) 4=some (bY t.1):=by
 obtain⟨b,rfl⟩:=fo.1 h;rw[jT,CL,kr b];show cF (ij l[a]++dP _) 4=_;rw[eR,ay (by simp[ij])];rfl
theorem wW{t:aI}(h:l[a]? =some t):eu (dP l) (a*5+4)=some (cG t.2):=by
 obtain⟨b,rfl⟩:=fo.1 h;have:=congrArg (fun x:List V=>x[4]?) (CL l a);simp only[pJ]at this;rw[iW,this,kr b];rfl
variable{r:Int}{p:IntKind}
theorem qc(h:0≤r∧r<l.length):dY none 5 [bV l,.int p r]=some (.val (.dm (dP l) (r.toNat*5))):=lz h
@[go_sem]theorem avk(l:List aI):eC (bV l)=some (.val (ai (l.length:Int))):=rfl
@[go_sem]theorem au1(l:List aI):bP (bV l)=true:=rfl
@[go_sem]theorem auo(l:List aI):cellsOf (bV l)=[bV l]:=rfl
@[go_sem]theorem avR(l:List aI):V.one (bV l)=true:=rfl
theorem aqn(a:0≤r∧r≤l.length):slice3 (jA 5) false true false [bV l,.int p r]=some (.val (bV (l.take r.toNat))):=by
 unfold bV;rw[Cy (qq l) a,aq8,ep];rw[(aa:min r.toNat l.length=r.toNat)]
theorem aqo(a:0≤r∧r≤l.length):slice3 (jA 5) true false false [bV l,.int p r]=some (.val (bV (l.drop r.toNat))):=by
 unfold bV;rw[aql (qq l) a,CL,gF]
def jM(n:Nat)(l:List aI):Prop:=∀t∈l,t.2.length=n∧t.2.sum≤1000000000000
theorem jM.take(h:jM a l)(i:Nat):jM a (l.take i):=fun t b=>h t (ve b)
theorem jM.drop(h:jM a l)(i:Nat):jM a (l.drop i):=fun t b=>h t (List.mem_of_mem_drop b)
theorem jM.hM(h:jM a l):jM a (hM l):=fun t b=>h t ((yS l).mem_iff.1 b)
variable{c:ag}
theorem ZK{v:V}(h:bu c 5 v (dP l) a):cr c (ag.zero c.next) v (bV l):=by
 obtain⟨n,b,d⟩:=h.dr (H2:=ag.zero c.next) aj (fun _ _ _=>jJ) (dy.refl _)
 rw[qq]at d;have:n=l.length:=aa;rw[this]at b;exact b
def C8(a b:List aI)(k:Nat)(F:Fr)(H:ag):Prop:=∃(i j:Nat) (m:List aI) (v:V) (g:Nat),k=(a.length-i)+(b.length-j)∧rd 3 F=bV a∧rd 4 F=bV b∧rd 5 F=v∧rd 6 F=ai (i:Int)∧rd 7 F=ai (j:Int)∧i≤a.length∧j≤b.length∧bu H 5 v (dP m) g∧m.length=i+j∧m++qF (a.drop i) (b.drop j) g5=qF a b g5
theorem drop_cons{t:aI}(h:l[a]? =some t):l.drop a=t::l.drop (a+1):=by
 obtain⟨b,rfl⟩:=fo.1 h;exact kr b
theorem anr(a b:List aI)(n:Nat)(hn:n≤1000000000)(D:jM n a)(S:jM n b)(hl:a.length+b.length≤100000000)(F:Fr)(H:ag)(R:X→Fr→ag→Prop)(ab:rd 3 F=bV a)(ac:rd 4 F=bV b)(ad:rd 5 F=.ak)(ae:rd 6 F=ai 0)(al:rd 7 F=ai 0)
 (hR:∀M O v g,rd 5 M=v→bu O 5 v (dP (qF a b g5)) g→R (.exit 0) M O):bT (.loop E4) R F H:=by
 refine bW (C8 a b) (a.length+b.length) ⟨0,0,[],.ak,0,aa,ab,ac,ad,ae,al,ck _,ck _,.nil,rfl,aJ⟩ ?_;rintro k N P ⟨i,j,m,v,g,rfl,p,q,y,r,s,hi,hj,G,a',f⟩;have a9:=qq m;have U:∀h t,a[i]? =some t→m++t::qF (a.drop (i+1)) (b.drop j) g5=qF a b g5→rd 57 h=cC→(∀t,t<8→rd t h=rd t N)→bT xN (lX 1 (e_ (nO (C8 a b) ((a.length-i)+(b.length-j))) R)) h P:=by
  intro h t c I C d;have a5:i<a.length:=(fo.1 c).1;have g3:=(d 3 aj).trans p;have w:=(d 4 aj).trans q;have A:=(d 5 aj).trans y;have x:=(d 6 aj).trans r;have bO:=(d 7 aj).trans s;have E:=acZ c;simp(disch:=omega)only[go_sem,xN,C,g3,A,x,qc,bN,E];simp only[go_sem,ij];refine jR (new:=ij t) G rfl aj rfl ⟨aa,aj⟩ fun L W z K a2 a3 a4=>?_
  simp(disch:=omega)only[go_sem,x,aQ];refine⟨(a.length-(i+1))+(b.length-j),aa,i+1,j,m++[t],L,z,rfl,?_,?_,?_,?_,?_,aa,hj,?_,?_,?_⟩
  iterate 3 simp only[go_sem,g3,w]
  ·simp only[go_sem];rfl
  ·simp only[go_sem,bO]
  ·rw[wV];simpa [dP]using K
  ·rw[bt,gm];omega
  ·rw[eG];exact I
 have V:∀h t,b[j]? =some t→m++t::qF (a.drop i) (b.drop (j+1)) g5=qF a b g5→rd 57 h=aq→(∀t,t<8→rd t h=rd t N)→bT xN (lX 1 (e_ (nO (C8 a b) ((a.length-i)+(b.length-j))) R)) h P:=by
  intro h t c I C d;have a6:j<b.length:=(fo.1 c).1;have g3:=(d 3 aj).trans p;have w:=(d 4 aj).trans q;have A:=(d 5 aj).trans y;have x:=(d 6 aj).trans r;have bO:=(d 7 aj).trans s;have E:=acZ c;simp(disch:=omega)only[go_sem,xN,C,w,A,bO,qc,bN,E];simp only[go_sem,ij];refine jR (new:=ij t) G rfl aj rfl ⟨aa,aj⟩ fun L W z K a2 a3 a4=>?_
  simp(disch:=omega)only[go_sem,bO,aQ];refine⟨(a.length-i)+(b.length-(j+1)),aa,i,j+1,m++[t],L,z,rfl,?_,?_,?_,?_,?_,hi,aa,?_,?_,?_⟩
  iterate 4 simp only[go_sem,g3,w,x]
  ·simp only[go_sem];rfl
  ·rw[wV];simpa [dP]using K
  ·rw[bt,gm];omega
  ·rw[eG];exact I
 unfold E4;by_cases h1:i<a.length
 ·obtain⟨t,c⟩:∃t,a[i]? =some t:=⟨a[i],cH h1⟩;by_cases B:j<b.length
  ·obtain⟨u,o⟩:∃u,b[j]? =some u:=⟨b[j],cH B⟩;have J:t∈a:=er c;have T:u∈b:=er o;have ho:=abp t.2 u.2 ((D t J).1.trans (S u T).1.symm) (by rw[(D t J).1];exact hn) (D t J).2 (S u T).2;have Y:=wW c;have Z:=wW o;simp(disch:=omega)only[go_sem,zP,p,q,r,s,dt,df,qc,bN,Y,Z];refine use ho ?_;rw[drop_cons c,drop_cons o,List.cons_merge_cons]at f;by_cases Q:0≤ord t.2 u.2
   ·rw[ay (show g5 t u=true from bw Q),←drop_cons o]at f;simp(disch:=omega)only[go_sem,df];refine U _ t c f ?_ (fun t c=>?_)
    ·simp only[go_sem]
    ·simp(disch:=omega)only[cc]
   ·rw[au (show¬g5 t u=true from fun e=>Q (of_decide_eq_true e)),←drop_cons c]at f;simp(disch:=omega)only[go_sem,dt];refine V _ u o f ?_ (fun t c=>?_)
    ·simp only[go_sem]
    ·simp(disch:=omega)only[cc]
  ·have a7:j=b.length:=aa;rw[drop_cons c,i_ (l:=b) aa,List.merge_right]at f;simp(disch:=omega)only[go_sem,zP,p,q,r,s,dt];refine U _ t c (by rw[i_ (l:=b) aa,List.merge_right];exact f) ?_ (fun t c=>?_)
   ·simp only[go_sem]
   ·simp(disch:=omega)only[cc]
 ·by_cases B:j<b.length
  ·obtain⟨u,o⟩:∃u,b[j]? =some u:=⟨b[j],cH B⟩;rw[drop_cons o,i_ (l:=a) aa,List.nil_merge]at f;simp(disch:=omega)only[go_sem,zP,p,q,r,s,dt,df];refine V _ u o (by rw[i_ (l:=a) aa,List.nil_merge];exact f) ?_ (fun t c=>?_)
   ·simp only[go_sem]
   ·simp(disch:=omega)only[cc]
  ·rw[i_ (l:=a) aa,i_ (l:=b) aa,List.merge_right,fA]at f;simp(disch:=omega)only[go_sem,p,q,r,s,df];refine hR _ _ v g ?_ (by rw[←f];exact G);simp only[go_sem,y]
theorem aqC(l:List aI)(n:Nat)(o:n≤1000000000)(a:jM n l)(u:l.length≤100000000):bA 182 [bV l] (bV (hM l)):=by
 induction m:l.length using jb generalizing l with
 |ind k c=>
  subst m;refine e3 (.cons (tX _) .nil) (bg akV ?_);by_cases h:l.length<2
  ·simp(disch:=omega)only[go_sem,E3,E5,dt];rw[wS h];exact g8 rfl (tX _)
  ·have f:=c _ (by rw[ep];omega) (l.take (l.length/2)) (a.take _) (by rw[ep];omega) rfl;have i:=c _ (by rw[gF];omega) (l.drop (l.length/2)) (a.drop _) (by rw[gF];omega) rfl;have d:((l.length:Nat):Int).tdiv 2=((l.length/2:Nat):Int):=rfl;have w:l.length/2≤l.length:=g7 _ _;have j:(2:Int)≠0:=aj;have p:gM (gZ .quo) [ai ((l.length:Nat):Int),ai 2]=some (.val (ai ((l.length/2:Nat):Int))):=by
    rw[iC _ _ _ j,d,aQ _ aa]
   have q:slice3 (jA 5) false true false [bV l,ai ((l.length/2:Nat):Int)]=some (.val (bV (l.take (l.length/2)))):=by
    rw[aqn ⟨aa,aa⟩,bN]
   have r:slice3 (jA 5) true false false [bV l,ai ((l.length/2:Nat):Int)]=some (.val (bV (l.drop (l.length/2)))):=by
    rw[aqo ⟨aa,aa⟩,bN]
   simp(disch:=omega)only[go_sem,E3,E5,PL,df,p,q,r];refine use f ?_;simp only[go_sem];refine use i ?_;simp only[go_sem,PK,PJ,PI];refine anr (hM (l.take (l.length/2))) (hM (l.drop (l.length/2))) n o (a.take _).hM (a.drop _).hM (by rw[wR,wR,ep,gF];omega) _ _ _ ?_ ?_ ?_ ?_ ?_ ?_
   iterate 5 simp only[go_sem]
   intro s t v g e b;rw[fu];simp only[go_sem,PG,e];rw[←CD h]at b;exact⟨_,ZK b,tX _,rfl⟩
theorem rW(q:Rat):V.agg (bY q)=cJ q:=rfl
theorem wm(q:Rat):cF (bY q) 4=some (bY q):=rfl
theorem uj(q:Rat):bP (cJ q)=true:=rfl
theorem tK(q:Rat):cellsOf (cJ q)=bY q:=rfl
theorem uv(q:Rat):cP (bY q)=4:=rfl
theorem xz(q:Rat):de (bY q)=true:=rfl
theorem anc(p q:Rat):dx (bY p) (bY q) 0=some (bY p):=rfl
theorem adN(s:List aI)(n q:Nat)(hn:n≤1000000000)(h:jM n s)(E:∀t∈s,bB q t.1)(hl:s.length≤100000000)(ap:(q+1)*(s.length+1)≤29999999)(i b:Nat)(t:aI)(a:s[i]? =some t)(F:Fr)(H:ag)(R:X→Fr→ag→Prop)
 (N:rd 5 F=bV s) (O:rd 7 F=ai (i:Int)) (P:rd 8 F=.ptr b 0) (Q:rd 9 F=ai ((i+1:Nat):Int)) (W:H.get b=.cells (bY t.1) 0)
 (J:∀(z:Fr) (l:ag) (k:Nat) (c:Rat),(∀t,t<9→rd t z=rd t F)→rd 9 z=ai (k:Int)→i<k→k≤s.length→f_ t.1 t.2 (s.drop (i+1))=(c,s.drop k)→bB ((q+1)*(k-i)) c→l.get b=.cells (bY c) 0→(∀y,y≠b→l.get y=H.get y)→l.next=H.next→R (.exit 2) z l):
 bT (.loop D8) R F H:=by
 have hi:i<s.length:=(fo.1 a).1;have w:t∈s:=er a
 refine bW (fun m A o=>∃(k:Nat) (c:Rat),m=s.length-k∧(∀t,t<9→rd t A=rd t F)∧rd 9 A=ai (k:Int)∧i<k∧k≤s.length∧f_ c t.2 (s.drop k)=f_ t.1 t.2 (s.drop (i+1))∧bB ((q+1)*(k-i)) c∧o.get b=.cells (bY c) 0∧(∀y,y≠b→o.get y=H.get y)∧o.next=H.next) (s.length-(i+1))
  ⟨i+1,t.1,rfl,fun _ _=>rfl,Q,aa,aa,rfl,(E t w).mono (by rw[(aa:i+1-i=1)];omega),W,fun _ _=>rfl,rfl⟩ ?_
 rintro m A o ⟨k,c,rfl,f,d,K,L,p,v,r,D,C⟩;have B:=(f 5 aj).trans N;have V:=(f 7 aj).trans O;have G:=(f 8 aj).trans P;have T:=wW a;unfold D8;by_cases Z:k<s.length
 ·obtain⟨u,j⟩:∃u,s[k]? =some u:=⟨s[k],cH Z⟩;have x:u∈s:=er j;have ho:=abp t.2 u.2 ((h t w).1.trans (h u x).1.symm) (by rw[(h t w).1];exact hn) (h t w).2 (h u x).2;have U:=wW j;have S:=KC j;rw[drop_cons j]at p;simp(disch:=omega)only[go_sem,B,V,d,dt,qc,bN,T,U];refine use ho ?_;by_cases I:ord t.2 u.2=0
  ·have g:f_ (c+u.1) t.2 (s.drop (k+1))=f_ t.1 t.2 (s.drop (i+1)):=by
    rw[←p];exact(ay I).symm
   have am:(q+1)*(k+1-i)=(q+1)*(k-i)+(q+1):=by rw[(aa:k+1-i=(k-i)+1),bU,dQ]
   have ad:(q+1)*(k+1-i)≤(q+1)*(s.length+1):=fc _ aa;have Y:=Cc c u.1 v (E u x) aa;simp(disch:=omega)only[go_sem,Nb,dt,B,G,d,r,qc,bN,cO,S,wm,rW];refine use Y ?_;simp(disch:=omega)only[go_sem,Na,uj,tK,uv,xz,anc,G,d,r,aQ];refine⟨s.length-(k+1),aa,k+1,c+u.1,rfl,fun t a=>?_,?_,aa,aa,g,?_,?_,?_,?_⟩
   ·simp(disch:=omega)only[cc];exact f t a
   ·simp only[go_sem];rfl
   ·exact(v.add (E u x)).mono aa
   ·rw[ag.a_,ay rfl]
   ·intro y M;rw[ag.a_,au (fun e=>M e.symm)];exact D y M
   ·exact C
  ·have g:f_ t.1 t.2 (s.drop (i+1))=(c,s.drop k):=by
    rw[←p,drop_cons j];exact au I
   simp(disch:=omega)only[go_sem,df];refine J _ _ k c (fun t a=>?_) ?_ K L g v r D C
   ·simp(disch:=omega)only[cc];exact f t a
   ·simp only[go_sem,d]
 ·have g:f_ t.1 t.2 (s.drop (i+1))=(c,s.drop k):=by
   rw[←p,i_ aa];rfl
  simp(disch:=omega)only[go_sem,B,d,df];refine J _ _ k c (fun t a=>?_) ?_ K L g v r D C
  ·simp(disch:=omega)only[cc];exact f t a
  ·simp only[go_sem,d]
def kC(n:Nat)(l:List aI):List V:=[ai (n:Int),bV l]
def jx(n:Nat)(l:List aI):V:=.agg (kC n l)
theorem r9(n:Nat)(l:List aI):bZ (jx n l):=.agg (.cons (.int _ _) (.cons (tX _) .nil))
def adH(s:List aI)(a:Nat)(k:Nat)(F:Fr)(H:ag):Prop:=∃(i:Nat) (m:List aI) (v:V) (g:Nat),k=s.length-i∧rd 4 F=.ptr 5 0∧rd 5 F=bV s∧rd 6 F=.ptr 6 0∧rd 7 F=ai (i:Int)∧i≤s.length∧H.get 5=.cells [ai 0,.ak] 0∧H.get 6=.cells [ai (a:Int),v] 0∧bu H 5 v (dP m) g∧7≤H.next∧m.length≤i∧m++b5 (s.drop i)=b5 s
theorem aqU(s:List aI)(n q x:Nat)(hn:n≤1000000000)(he:jM n s)(hq:∀t∈s,bB q t.1)(hl:s.length≤100000000)(a':(q+1)*(s.length+1)≤29999999)(F:Fr)(H:ag)(R:X→Fr→ag→Prop)
 (T:rd 4 F=.ptr 5 0) (U:rd 5 F=bV s) (W:rd 6 F=.ptr 6 0) (Y:rd 7 F=ai 0) (h5:H.get 5=.cells [ai 0,.ak] 0) (h6:H.get 6=.cells [ai (x:Int),.ak] 0) (h7:7≤H.next)
 (hR:∀z j v g,rd 4 z=.ptr 5 0→rd 6 z=.ptr 6 0→j.get 5=.cells [ai 0,.ak] 0→j.get 6=.cells [ai (x:Int),v] 0→bu j 5 v (dP (b5 s)) g→R (.exit 0) z j):
 bT (.loop D_) R F H:=by
 refine bW (adH s x) s.length ⟨0,[],.ak,0,rfl,T,U,W,Y,ck _,h5,h6,.nil,h7,aR _,aJ⟩ ?_;rintro k bd e ⟨i,m,v,g,rfl,E,l,G,o,hi,I,J,L,b0,bs,a⟩;unfold D_;by_cases a6:i<s.length
 ·obtain⟨t,h⟩:∃t,s[i]? =some t:=⟨s[i],cH a6⟩;have b2:t∈s:=er h;have Z:=KC h;have ab:=wW h;have hz:dx (bY t.1) [V.bool false,.ak,aq,.ak] 0=some (bY t.1):=rfl;simp(disch:=omega)only[go_sem,Nj,Ni,Nh,uj,tK,uv,xz,hz,l,o,dt,qc,bN,cO,Z,rW,aQ];refine adN s n q hn he hq hl a' i e.next t h _ _ _ ?_ ?_ ?_ ?_ ?_ ?_
  iterate 3 simp only[go_sem,l,o]
  ·simp only[go_sem];rfl
  ·rw[ag.a_,ay rfl]
  intro d f k c b mb bj M aw b1 K ap am;have N:rd 4 d=.ptr 5 0:=by rw[b 4 aj];simp only[go_sem,E]
  have C:rd 5 d=bV s:=by rw[b 5 aj];simp only[go_sem,l]
  have u:rd 6 d=.ptr 6 0:=by rw[b 6 aj];simp only[go_sem,G]
  have fD:rd 7 d=ai (i:Int):=by rw[b 7 aj];simp only[go_sem,o]
  have lB:rd 8 d=.ptr e.next 0:=by rw[b 8 aj];simp only[go_sem]
  clear b;have A:∀y,y<e.next→f.get y=e.get y:=by
   intro y hy;rw[ap y aa,ag.a_,au aa,ag.bE,au aa]
  have bv:f.next=e.next+1:=am
  have D:f.get 5=.cells [ai 0,.ak] 0:=(A 5 aa).trans I;have w:f.get 6=.cells [ai (x:Int),v] 0:=(A 6 aa).trans J;have r:bu f 5 v (dP m) g:=L.low A aa;have bo:=qq m;have a5:b5 (s.drop i)=if c.num≠0 then(c,t.2)::b5 (s.drop k)else b5 (s.drop k):=by
   rw[drop_cons h,uc,aw]
  rw[a5]at a;rw[fu];simp only[go_sem,Ng,lB,K,wm,rW];refine use (ach c) ?_;by_cases p:c.num=0
  ·have B:(if c.num<0 then(-1:Int)else if c.num=0 then 0 else 1)=0:=by rw[au aa,ay p]
   rw[au (by simpa using p)]at a;simp(disch:=omega)only[go_sem,D9,B,decide_true,mb];refine⟨s.length-k,aa,k,m,v,g,rfl,?_,?_,?_,?_,M,D,w,r,aa,aa,a⟩
   iterate 4 simp only[go_sem,N,C,u]
  ·have B:decide ((if c.num<0 then(-1:Int)else if c.num=0 then 0 else 1)=0)=false:=by
    refine bp ?_;rw[au p];split<;>decide
   rw[ay p]at a;have a0:dx (bY c) [V.bool false,.ak,aq,.ak,.ak] 0=some (bY c++[.ak]):=rfl;have a1:dx [cG t.2] (bY c++[V.ak]) 4=some (bY c++[cG t.2]):=rfl;have a2:mc (bY c++[cG t.2]) [V.bool false,.ak,aq,.ak,.ak]=some (ij (c,t.2)):=rfl;have a3:cP (bY c++[cG t.2])=5:=rfl;simp(disch:=omega)only[go_sem,uj,tK,uv,a0,a1,a2,a3,B,C,u,fD,lB,K,w,wm,rW,qc,bN,ab];refine jR (bytes:=88) (new:=ij (c,t.2)) r rfl aj rfl ⟨aa,aj⟩ fun v2 H3 g2 O ca P cb=>?_
   obtain⟨S,n2,rfl⟩:=O.slice aa;have bc:=(P 5 aa (r.ne D)).trans D;have Q:=(P 6 aa (r.ne w)).trans w;simp(disch:=omega)only[go_sem,D9,u,mb,Q];refine⟨s.length-k,aa,k,m++[(c,t.2)],.slice S 0 n2 (.grown 5),g2,rfl,?_,?_,?_,?_,M,?_,?_,?_,?_,?_,?_⟩
   iterate 4 simp only[go_sem,N,C,u]
   ·rw[ag.a_,au aj];exact bc
   ·rw[ag.a_,ay rfl]
   ·refine bu.set ?_ Q _;rw[wV];simpa [dP]using O
   ·rw[iI];omega
   ·rw[bt,gm];omega
   ·rw[eG];exact a
 ·rw[i_ aa,vZ,fA]at a;simp(disch:=omega)only[go_sem,l,o,df];refine hR _ _ v g ?_ ?_ I J (by rw[←a];exact L)
  iterate 2 simp only[go_sem,E,G]
variable{g:Nat}
theorem ah6{v:V}(h:bu c 5 v (dP l) a):∃u,cr c (ag.zero c.next) (.agg [ai (g:Int),v]) u∧bZ u∧u=jx g l:=
 ⟨_,.agg (.cons (.same _) (.cons (ZK h) .nil)),r9 _ _,rfl⟩
theorem Kx(l:List aI)(n q b:Nat)(f:n≤1000000000)(d:jM n l)(o:∀t∈l,bB q t.1)(e:l.length≤100000000)(p:(q+1)*(l.length+1)≤29999999):bA 116 [ai (b:Int),bV l] (jx b (jy l)):=by
 refine e3 (.cons (.int _ _) (.cons (tX _) .nil)) (bg akm ?_);simp only[go_sem,M_,Nf];refine use (aqC l n f d e) ?_;simp only[go_sem,Nd,Nc];refine aqU (hM l) n q b f d.hM (fun t r=>o t ((yS l).mem_iff.1 r)) (by rw[wR];exact e) (by rw[wR];exact p) _ _ _ ?_ ?_ ?_ ?_ ?_ ?_ ?_ ?_
 iterate 6 simp only[go_sem]
 ·exact aR 7
 intro s u v g i j c k a;have x:bP v=true:=by generalize dP (b5 (hM l))=h at a;cases a<;>rfl
 have w:cellsOf v=[v]:=by generalize dP (b5 (hM l))=h at a;cases a<;>rfl
 have m:V.one v=true:=by generalize dP (b5 (hM l))=h at a;cases a<;>rfl
 rw[fu];simp only[go_sem,Nk,i,j,c,k,m];exact ah6 (a.set c _)
def lN(l:List Int):V:=.row l.length (l.map fun z=>V.int .i64 z)
def eS(l:List Int)(i:Nat):List V:=[lN l,ai (i:Int)]
def ko(l:List Int):Prop:=∀z∈l,-9223372036854775808≤z∧z<9223372036854775808
theorem Zs(l:List Int):bZ (lN l):=.row _ (cM.iff.2 fun v h=>by
 simp only[nc]at h;obtain⟨d,_,rfl⟩:=h;exact .int _ _)
theorem Zo(l:List Int)(i:Nat):cM (eS l i):=.cons (Zs l) (.cons (.int _ _) .nil)
@[go_sem]theorem avo(l:List Int):eC (lN l)=some (.val (ai (l.length:Int))):=rfl
theorem ajq{l:List Int}(h:0≤r∧r<l.length):dY none 1 [lN l,.int p r]=some (.val (.dm (l.map fun z=>V.int .i64 z) r.toNat)):=by
 rw[lN,lz h,dQ]
theorem amU{l:List Int}(h:a<l.length):eu (l.map fun z=>V.int .i64 z) a=some (ai (l.getD a 0)):=by
 rw[iW];simp[h]
def pT(l:List Int)(f:Nat)(d:List V)(R:V→Prop):Prop:=∀(H:ag) (b i:Nat),5≤b→i≤l.length→H.get b=.cells (eS l i) 0→
 dN f (.ptr b 0::d) H fun v c=>R v∧∃a,a≤l.length∧c=H.set b (.cells (eS l a) 0)
theorem sU{l:List Int}{R:V→Prop}(p:cM b)
 (h:∀i,i≤l.length→dN a (.ptr 5 0::b) (ag.one 5 6 (eS l i)) fun k d=>∃c v,c≤l.length∧d.get 5=.cells (eS l c) 0∧cr d (ag.one 5 d.next (eS l c)) k v∧bZ v∧R v):pT l a b R:=by
 intro H e i q s r;refine(afz (R:=fun v j=>R v∧∃c,c≤l.length∧j=eS l c) r (Zo l i) q ⟨0,aJ⟩ (args2:=.ptr 5 0::b) (.cons ?_ (jF.free p)) ?_).mono ?_
 ·have:=gX.ptr (σ:=oM 5 e) (k:=5+1) (b:=5) 0 aj;rwa[show oM 5 e 5=e from ay rfl]at this
 ·refine(h i s).mono ?_;rintro k d ⟨c,v,f,g,m,n,o⟩;exact⟨v,eS l c,g,Zo l c,m,n,o,c,f,rfl⟩
 ·rintro v d ⟨j,⟨f,c,g,rfl⟩,rfl⟩;exact⟨f,c,g,rfl⟩
variable{j:Option Nat}{f:Fr→ag→Prop}{o:Fr}{z:Nat}
theorem iX{l:List Int}{R:V→Prop}(h:pT l a b R)(m:5≤g)(p:z≤l.length)(n:c.get g=.cells (eS l z) 0)
 (q:∀v d,R v→d≤l.length→f (put o j v) (c.set g (.cells (eS l d) 0))):ow eW 5 j f o c (some (.fn a,.ptr g 0::b)):=
 (h c g z m p n).mono fun v r ⟨i,d,k,e⟩=>by rw[e];exact q v d i k
theorem qZ(n:Nat)(a:List V):(ag.one 5 n a).get 5=.cells a 0:=by rw[ag.kQ,ay rfl]
theorem lE(n:Nat)(a:List V):(ag.one 5 n a).next=n:=rfl
theorem aq5(v n:Int)(a:0<n):(v.tmod n+n).tmod n=v%n:=by
 have b: -n<v.tmod n:=by
  have:=Int.lt_tmod_of_pos v a;omega
 rw[Int.tmod_eq_emod_of_nonneg aa,Int.add_emod_right,Int.tmod_eq_emod];split
 ·simp
 ·rw[(aa:((n.natAbs:Nat):Int)=n),Int.sub_emod_right,Int.emod_emod]
theorem mU(l:List Int)(q:l.length≤400)(o:ko l)(n:Nat)(f:0<n∧n≤1048576):pT l 11 [ai (n:Int)] fun v=>∃k:Nat,k<n∧v=ai (k:Int):=by
 refine sU (.cons (.int _ _) .nil) fun i e=>bg oX ?_
 by_cases h:i<l.length
 ·have p:=o (l.getD i 0) (by
   rw[c_,cH h];exact u_ h)
  obtain⟨z,c⟩:∃z,z=l.getD i 0:=⟨_,rfl⟩;rw[←c]at p;have d:eu (l.map fun z=>V.int .i64 z) i=some (ai z):=by rw[c];exact amU h
  have g:((n:Nat):Int)≠0:=aa;have j:=Int.lt_tmod_of_pos z (aa:(0:Int)<n);have m:=Int.tmod_lt_of_pos z (aa:(0:Int)<n);have a:=aq5 z n aa;have r:=Int.emod_nonneg z g;have s:=Int.emod_lt_of_pos z (aa:(0:Int)<n);obtain⟨x,b⟩:∃x,x=z.tmod n:=⟨_,rfl⟩;rw[←b]at j m a;simp(disch:=omega)only[go_sem,D2,Eb,Nw,Nv,Nu,eS,qZ,dt,fB,ajq,bN,d,aQ,k_,←b];refine⟨i+1,_,aa,?_,.same _,.int _ _,(z%n).toNat,aa,?_⟩
  ·rfl
  ·rw[a];congr 1;omega
 ·simp(disch:=omega)only[go_sem,D2,Eb,eS,qZ,df,fB];exact⟨i,_,e,rfl,.same _,.int _ _,0,f.1,rfl⟩
theorem acK(n d:Int)(e:n.natAbs≤9)(c:0<d∧d≤4):bB 4 (Rat.divInt n d):=by
 obtain⟨k,rfl⟩:∃k:Nat,d=k:=⟨d.natAbs,aa⟩;rw[tj];obtain⟨a,b⟩:=mk_le n (m:=k) aa;exact⟨aa,aa⟩
theorem CB(h:a<1024):dI a:=dI.of (k:=10) aa aj
def adD(k:Nat)(v:V):Prop:=∃q:Rat,bB k q∧v=cJ q
theorem qa(q:Rat):dx (bY q) [V.bool false,.ak,aq,.ak] 0=some (bY q):=rfl
theorem an8(l:List Int)(a:l.length≤400)(b:ko l):pT l 42 [] (adD 4):=by
 refine sU .nil fun i c=>bg al3 ?_
 simp only[go_sem,V2,V4];refine iX (mU l a b 19 aj) aj c ?_ ?_
 ·simp only[go_sem,qZ,lE]
 rintro _ m ⟨g,j,rfl⟩ d;simp(disch:=omega)only[go_sem,V3,aQ];refine use (sj _ aa) ?_;simp only[go_sem];refine iX (mU l a b 4 aj) aj d ?_ ?_
 ·simp only[go_sem]
 rintro _ f ⟨h,k,rfl⟩ e;simp(disch:=omega)only[go_sem,aQ];refine use (sj _ aa) ?_;simp only[go_sem];refine use (vW ((g:Int)-9) (1+(h:Int)) aa (CB aa) (CB aa)) ?_;simp only[go_sem,lE,uj,tK,uv,xz,qa,eY,wm,rW];refine⟨f,_,e,?_,.same _,iu _,_,acK _ _ aa aa,rfl⟩;simp only[go_sem]
theorem aoE(l:List Int)(e:l.length≤400)(f:ko l):pT l 53 [] (fun v=>∃q:Rat,bB 4 q∧0<q.num∧v=cJ q):=by
 refine sU .nil fun i h=>bg al_ ?_
 simp only[go_sem,WA,WB];refine iX (mU l e f 9 aj) aj h ?_ ?_
 ·simp only[go_sem,qZ,lE]
 rintro _ s ⟨a,p,rfl⟩ j;simp(disch:=omega)only[go_sem,aQ];refine use (sj _ aa) ?_;simp only[go_sem];refine iX (mU l e f 4 aj) aj j ?_ ?_
 ·simp only[go_sem]
 rintro _ o ⟨d,r,rfl⟩ m;simp(disch:=omega)only[go_sem,aQ];refine use (sj _ aa) ?_;simp only[go_sem];refine use (vW (1+(a:Int)) (1+(d:Int)) aa (CB aa) (CB aa)) ?_;simp only[go_sem,lE,uj,tK,uv,xz,qa,eY,wm,rW];refine⟨o,_,m,?_,.same _,iu _,_,acK _ _ aa aa,?_,rfl⟩
 ·simp only[go_sem]
 ·obtain⟨k,n⟩:∃k:Nat,1+(d:Int)=k:=⟨1+d,aa⟩;rw[n,tj,wq _ aa];have b:0<cx (1+(a:Int)).natAbs k:=Nat.gcd_pos_of_pos_right _ aa;have c:cx (1+(a:Int)).natAbs k≤(1+(a:Int)).natAbs:=Nat.gcd_le_left _ aa;have g:(1+(a:Int))=(((1+a:Nat)):Int):=aa;rw[g]at c b⊢;rw[cV]at c b⊢;have:0<(1+a)/cx (1+a) k:=Nat.div_pos c b;show 0<(((1+a)/cx (1+a) k:Nat):Int);omega
theorem adq(l:List Int)(c:l.length≤400)(d:ko l)(k:Nat)(h:k≤100):pT l 52 [ai (k:Int)] (fun v=>∃z:Int,-(k:Int)≤z∧z≤k∧v=cJ (z:Rat)):=by
 refine sU (.cons (.int _ _) .nil) fun i a=>bg al9 ?_
 have e:(2:Int)*(k:Int)+1=((2*k+1:Nat):Int):=aa;simp(disch:=omega)only[go_sem,Wy,Wz,aQ,e];refine iX (mU l c d (2*k+1) ⟨aa,aa⟩) aj a ?_ ?_
 ·simp only[go_sem,qZ,lE]
 rintro _ f ⟨g,j,rfl⟩ b;simp(disch:=omega)only[go_sem,aQ];refine use (Cb _ aa) ?_;simp only[go_sem,lE,uj,tK,uv,xz,qa,eY,wm,rW];refine⟨f,_,b,?_,.same _,iu _,(g:Int)-k,aa,aa,rfl⟩;simp only[go_sem]
def ov:jl:=Ia 5 s8 xm o5 300
theorem pF:nG eW 5 ov:=Yn hT cA aa_ fJ 300
def BE(l:List (List Nat)):List V:=l.map cG
def uf(l:List (List Nat)):V:=.row l.length (BE l)
def mT:Nat→List (List Nat)
 |1=>[[0],[1],[2]]
 |_=>[[0,0],[0,1],[1,0],[0,2],[1,1],[2,0]]
theorem amV:oa 5 ov 153 [ai 1,ai 2] (uf (mT 1))=true:=by kernel_rfl
theorem amW:oa 5 ov 153 [ai 2,ai 2] (uf (mT 2))=true:=by kernel_rfl
theorem amX(n:Nat)(h:n=1∨n=2):bA 153 [ai (n:Int),ai 2] (uf (mT n)):=by
 rcases h with rfl|rfl
 ·exact qk pF amV
 ·exact qk pF amW
@[go_sem]theorem avc(l:List (List Nat)):eC (uf l)=some (.val (ai (l.length:Int))):=rfl
theorem ajo{l:List (List Nat)}(h:0≤r∧r<l.length):dY none 1 [uf l,.int p r]=some (.val (.dm (BE l) r.toNat)):=by
 rw[uf,lz h,dQ]
theorem amT{l:List (List Nat)}(h:l[a]? =some d):eu (BE l) a=some (cG d):=by
 rw[iW,BE,qE,h];rfl
theorem BU(b:a=1∨a=2):∀e∈mT a,e.length=a∧e.sum≤2:=by
 rcases b with rfl|rfl<;>decide
theorem anw(b:a=1∨a=2):0<(mT a).length∧(mT a).length≤6:=by
 rcases b with rfl|rfl<;>decide
def qD(n k:Nat)(p:List aI):Prop:=Canon p∧(∀t∈p,t.2∈mT n∧bB (5*k) t.1)∧p.length≤k
def mE(H:ag):Prop:=∀y,y<5→H.get y=.none
def C'(l:List Int)(n a:Nat)(j:Nat)(F:Fr)(H:ag):Prop:=∃(i:Nat) (m:List aI) (v:V) (g:Nat),i≤l.length∧rd 0 F=.ptr 5 0∧rd 1 F=ai (n:Int)∧rd 8 F=.ptr 6 0∧rd 9 F=uf (mT n)∧rd 10 F=v∧rd 11 F=ai (j:Int)∧
 H.get 5=.cells (eS l i) 0∧H.get 6=.cells [ai 0,.ak] 0∧mE H∧bu H 5 v (dP m) g∧m.length+j≤a∧(∀t∈m,t.2∈mT n∧bB 4 t.1)∧7≤H.next
variable{J:ag}
theorem mE.keep(h:mE c)(b:∀y,y<5→J.get y=c.get y):mE J:=fun y a=>(b y a).trans (h y a)
theorem mE.set(h:mE c)(b:5≤a)(o:eg):mE (c.set a o):=h.keep fun y d=>by rw[ag.a_,au aa]
theorem ana(n:Nat)(a:List V):mE (ag.one 5 n a):=fun y b=>by rw[ag.kQ,au aa]
theorem mE.push(h:mE c)(a:5≤c.next)(o:eg):mE (c.push o):=h.keep fun y b=>by rw[ag.bE,au aa]
theorem aoD(l:List Int)(L:l.length≤400)(P:ko l)(n r:Nat)(hn:n=1∨n=2)(N:r≤10)(F:Fr)(H:ag)(R:X→Fr→ag→Prop)(j:Nat)(W:C' l n r j F H)
 (Y:∀B C,C' l n r 0 B C→R (.exit 0) B C):bT (.loop H8) R F H:=by
 refine bW (C' l n r) j W ?_;rintro j a' s ⟨i,m,v,g,K,c,D,G,u,E,d,w,I,A,x,hm,M,a2⟩;unfold H8;cases j with
 |zero=>
  simp(disch:=omega)only[go_sem,d,jn,df];refine Y _ _ ⟨i,m,v,g,K,?_,?_,?_,?_,?_,?_,w,I,A,x,hm,M,a2⟩
  iterate 6 simp only[go_sem,c,D,G,u,E,d]
 |succ j=>
  obtain⟨a0,bb⟩:=anw hn;simp(disch:=omega)only[go_sem,X5,c,E,d,dt];refine iX (an8 l L P) aj K w ?_;rintro _ o ⟨q,hq,rfl⟩ al;simp(disch:=omega)only[go_sem,c,u];refine iX (mU l L P (mT n).length ⟨a0,aa⟩) aj al ?_ ?_
  ·simp only[go_sem]
  rintro _ a ⟨k,hk,rfl⟩ am;obtain⟨e,J⟩:∃e,(mT n)[k]? =some e:=⟨(mT n)[k],cH hk⟩;have ae:e∈mT n:=er J;have ar:=amT J;have Z:dx (bY q) [V.bool false,.ak,aq,.ak,.ak] 0=some (bY q++[.ak]):=rfl;have ab:dx [cG e] (bY q++[V.ak]) 4=some (ij (q,e)):=rfl;have ac:mc (ij (q,e)) [V.bool false,.ak,aq,.ak,.ak]=some (ij (q,e)):=rfl;have ad:cP (ij (q,e))=5:=rfl;have ba:=qq m;simp(disch:=omega)only[go_sem,uj,tK,uv,Z,ab,ac,ad,ajo,bN,ar];have z:bu ((s.set 5 (.cells (eS l o) 0)).set 5 (.cells (eS l a) 0)) 5 v (dP m) g:=(x.set w _).set (cs:=eS l o) (by rw[ag.a_,ay rfl]) _;refine jR (bytes:=88) (new:=ij (q,e)) z rfl aj rfl ⟨aa,aj⟩ fun v2 T U q1 a5 p a6=>?_
  have Q:((s.set 5 (.cells (eS l o) 0)).set 5 (.cells (eS l a) 0)).get 5=.cells (eS l a) 0:=by rw[ag.a_,ay rfl]
  have S:((s.set 5 (.cells (eS l o) 0)).set 5 (.cells (eS l a) 0)).get 6=.cells [ai 0,.ak] 0:=by rw[ag.a_,au aj,ag.a_,au aj];exact I
  simp only[iI]at a5 p a6;have a7:=(p 5 aa (z.ne Q)).trans Q;have a8:=(p 6 aa (z.ne S)).trans S;have rl:mE T:=by
   intro y O;rw[p y aa (x.r6 fun b f e=>by rw[A y O]at e;cases e),ag.a_,au aa,ag.a_,au aa];exact A y O
  simp(disch:=omega)only[go_sem,X4,d,aQ];refine⟨j,lU j,a,m++[(q,e)],v2,U,am,?_,?_,?_,?_,?_,?_,a7,a8,rl,?_,?_,?_,aa⟩
  iterate 5 simp only[go_sem,c,D,G,u]
  ·simp only[go_sem];congr 1;omega
  ·rw[wV];simpa [dP]using q1
  ·rw[bt,gm];omega
  ·intro t N;rcases gU.1 N with h|h
   ·exact M t h
   ·rw[dH.1 h];exact⟨ae,hq⟩
theorem am_{d:List V}(h:mE c)(i:c.get 5=.cells b 0)(j:c.get 6=.cells d 0):∀y a g,y<7→c.get y=.cells a g→g=0:=by
 intro y a g k e;by_cases f:y<5
 ·rw[h y f]at e;cases e
 ·rcases(aa:y=5∨y=6)with rfl|rfl
  ·rw[i]at e;cases e;rfl
  ·rw[j]at e;cases e;rfl
theorem ahq(c:a=1∨a=2)(h:∀t∈l,t.2∈mT a):jM a l:=fun t d=>by
 obtain⟨b,e⟩:=BU c t.2 (h t d);exact⟨b,aa⟩
theorem JV(l:List Int)(r:l.length≤400)(w:ko l)(n b:Nat)(j:n=1∨n=2)(a:0<b∧b≤10):pT l 98 [ai (n:Int),ai 2,ai (b:Int)] fun v=>∃p,qD n b p∧v=jx n p:=by
 refine sU (.cons (.int _ _) (.cons (.int _ _) (.cons (.int _ _) .nil))) fun i G=>Ie hT cA fJ aav.1 aav.2 rfl 4 39 rfl rfl ?_
 have B:((b:Int)+1)=((b+1:Nat):Int):=aa;simp only[go_sem,X3,X9,X8,X7,ah.cutAt];refine use (amX n j) ?_;simp(disch:=omega)only[go_sem,aQ,B];refine iX (mU l r w (b+1) ⟨aa,aa⟩) aj G ?_ ?_
 ·simp only[go_sem,qZ,lE]
 rintro _ M ⟨k,T,rfl⟩ H;simp only[go_sem];refine aoD l r w n b j a.2 _ _ _ k ⟨M,[],.ak,0,H,?_,?_,?_,?_,?_,?_,?_,?_,?_,.nil,by simp;omega,(fun t h=>by cases h),?_⟩ ?_
 iterate 8 simp only[go_sem,lE]
 ·exact mE.set ((ana _ _).push (by rw[lE];decide) _) aj _
 ·exact aR 7
 rintro c f ⟨x,m,v,g,I,Q,C,E,S,D,R,o,q,J,F,U,d,V⟩;have s:=am_ J o q;rw[fu];simp only[go_sem];refine KT (f.low 7) (fun t=>if t=10 then bV m else if t=1∨t=8 then rd t c else .any) (Im (by rw[lE];decide) s) (fun t a=>?_) ?_
 ·show cr _ _ _ (if t=10 then _ else _);by_cases h:t=10
  ·subst h;rw[ay rfl,D];exact F.I3 aj s (qq m)
  ·rw[au h];split
   ·exact .same _
   ·exact .any _
 have y:rd 1 (ke (fun t=>if t=10 then bV m else if t=1∨t=8 then rd t c else .any) 39)=ai (n:Int):=by rw[o8 _ aj];exact C
 have A:rd 8 (ke (fun t=>if t=10 then bV m else if t=1∨t=8 then rd t c else .any) 39)=.ptr 6 0:=by rw[o8 _ aj];exact E
 have z:rd 10 (ke (fun t=>if t=10 then bV m else if t=1∨t=8 then rd t c else .any) 39)=bV m:=by rw[o8 _ aj];rfl
 generalize ke (fun t=>if t=10 then bV m else if t=1∨t=8 then rd t c else .any) 39=P at y A z
 have N:(f.low 7).get 5=.cells (eS l x) 0:=by rw[ag.oU,ay aj];exact o
 have O:(f.low 7).get 6=.cells [ai 0,.ak] 0:=by rw[ag.oU,ay aj];exact q
 have K:=Kx m n 4 n aa (ahq j fun t a=>(d t a).1) (fun t a=>(d t a).2) aa (by
  have:=fc (4+1) (aa:m.length+1≤11);omega)
 simp only[go_sem,X6,y,z];refine use K ?_;simp only[go_sem,jx,kC,A,O];refine⟨x,_,I,?_,.same _,r9 _ _,jy m,⟨aoK m,fun t a=>?_,?_⟩,rfl⟩
 ·simp only[go_sem,N]
 ·obtain⟨u,L,e⟩:=aoO a;refine⟨by rw[e];exact(d u L).1,?_⟩;refine(aoP (k:=4) (fun t a=>(d t a).2) t a).mono ?_;have:=fc (4+1) (aa:m.length≤b);omega
 ·have:=aoM m;omega
def n9(n:Nat)(p:List aI):List V:=[ai (n:Int),bV p]
def eZ(n:Nat):List (List aI)→List V
 |[]=>[]
 |p::l=>n9 n p++eZ n l
def gz(n:Nat)(l:List (List aI)):V:=.row l.length (eZ n l)
theorem qi(n:Nat):∀l,(eZ n l).length=l.length*2
 |[]=>rfl
 |p::l=>by
  simp only[eZ,bt,qi n l,di];have:(n9 n p).length=2:=rfl;omega
theorem yE(n:Nat):∀(l m:List (List aI)),eZ n (l++m)=eZ n l++eZ n m
 |[],_=>rfl
 |t::l,m=>by simp only[fm,eZ,yE n l m,eG]
theorem Zk(n:Nat):∀l,cM (eZ n l)
 |[]=>.nil
 |p::l=>nY (.cons (.int _ _) (.cons (tX _) .nil)) (Zk n l)
theorem IS(n:Nat)(l:List (List aI)):bZ (gz n l):=.row _ (Zk n l)
end Go.Proofs.YtddhncjmaahodaaGreatDoor
namespace Go.aE
variable{c:ag}{a:Nat}{b:List V}{g:Nat}
theorem bu.bP{v:V}(h:bu c a v b g):bP v=true∧cellsOf v=[v]∧V.one v=true:=by cases h<;>exact⟨rfl,rfl,rfl⟩
end Go.aE
namespace Go.Proofs.YtddhncjmaahodaaGreatDoor
open Go.aE Go.aV
def Lf(l:List Int)(n:Nat)(g:List aI)(d c:List (List aI))(f e:V)(b a:Nat)(H:ag):Prop:=∃i,i≤l.length∧H.get 5=.cells (eS l i) 0∧H.get 6=.cells [ai 0,ai 0,.ak,.ak,.ak] 0∧H.get 7=.cells [ai (n:Int),ai (n:Int),bV g,f,e] 0∧
 bu H 2 f (eZ n d) b∧bu H 2 e (eZ n c) a∧(a=0∨a≠b)∧8≤H.next∧b<H.next∧(∀p∈d,qD n 2 p)∧(∀p∈c,qD n 2 p)
def Le(n:Nat)(F:Fr):Prop:=rd 0 F=.ptr 5 0∧rd 1 F=ai (n:Int)∧rd 2 F=ai 2∧rd 6 F=.ptr 6 0∧rd 7 F=.ptr 7 0
def Da(l:List Int)(n:Nat)(c:List aI)(j:Nat)(F:Fr)(H:ag):Prop:=∃a d b,Le n F∧rd 8 F=ai (j:Int)∧a.length+j≤2∧Lf l n c a [] d .ak b 0 H
def Db(l:List Int)(n:Nat)(e:List aI)(d:List (List aI))(g:V)(c:Nat)(j:Nat)(F:Fr)(H:ag):Prop:=∃a f b,Le n F∧rd 9 F=ai (j:Int)∧a.length+j≤1∧Lf l n e d a g f c b H
theorem aoH(l:List Int)(V:l.length≤400)(hz:ko l)(n:Nat)(Y:n=1∨n=2)(g:List aI)(F:Fr)(H:ag)(R:X→Fr→ag→Prop)(j:Nat)(P:Da l n g j F H)
 (Q:∀x y,Da l n g 0 x y→R (.exit 0) x y):bT (.loop HF) R F H:=by
 refine bW (Da l n g) j P ?_;rintro j aw c ⟨b,w,G,⟨o,r,s,C,d⟩,e,W,i,J,t,E,bO,u,S,Z,ab,T,K,I⟩;unfold HF;cases j with
 |zero=>
  simp(disch:=omega)only[go_sem,e,jn,df];refine Q _ _ ⟨b,w,G,⟨?_,?_,?_,?_,?_⟩,?_,W,i,J,t,E,bO,u,S,Z,ab,T,K,I⟩
  iterate 6 simp only[go_sem,o,r,s,C,d,e]
 |succ j=>
  obtain⟨k1,k2,cu⟩:=u.bP;have a0:=qi n b;simp(disch:=omega)only[go_sem,V_,o,r,s,d,e,bO,dt];refine iX (JV l V hz n 2 Y aj) aj J t ?_;rintro _ a ⟨p,hp,rfl⟩ U;have a1:jx n p=.agg (n9 n p):=rfl;simp(disch:=omega)only[go_sem,jx,kC,bO,true_and];have f:bu (c.set 5 (.cells (eS l a) 0)) 2 w (eZ n b) G:=u.set t _;refine jR (bytes:=32) (new:=n9 n p) f rfl aj rfl ⟨aa,aj⟩ fun v2 N D k L m am=>?_
  obtain⟨O,n2,rfl⟩:=k.slice (by rw[iI]at L;omega);have z:(c.set 5 (.cells (eS l a) 0)).get 5=.cells (eS l a) 0:=by rw[ag.a_,ay rfl]
  have A:(c.set 5 (.cells (eS l a) 0)).get 6=.cells [ai 0,ai 0,.ak,.ak,.ak] 0:=by rw[ag.a_,au aj];exact E
  have B:(c.set 5 (.cells (eS l a) 0)).get 7=.cells [ai (n:Int),ai (n:Int),bV g,w,.ak] 0:=by rw[ag.a_,au aj];exact bO
  simp only[iI]at L m am;have ap:=(m 5 aa (f.ne z)).trans z;have ar:=(m 6 aa (f.ne A)).trans A;have M:=(m 7 aa (f.ne B)).trans B;have v:D<N.next:=by
   generalize eZ n b++n9 n p=xs at k
   cases k with
   |cells _ _ _ _ _ v _=>exact v
  simp(disch:=omega)only[go_sem,V9,d,e,M,aQ];refine⟨j,lU j,b++[p],.slice O 0 n2 (.grown 2),D,⟨?_,?_,?_,?_,?_⟩,?_,?_,a,U,?_,?_,?_,?_,.nil,.inl rfl,?_,?_,?_,I⟩
  iterate 5 simp only[go_sem,o,r,s,C,d]
  ·simp only[go_sem];congr 1;omega
  ·rw[bt,gm];omega
  ·rw[ag.a_,au aj];exact ap
  ·rw[ag.a_,au aj];exact ar
  ·rw[ag.a_,ay rfl]
  ·refine bu.set ?_ M _;rw[yE];simpa [eZ]using k
  ·rw[iI];omega
  ·rw[iI];exact v
  ·intro q hq;rcases gU.1 hq with h|h
   ·exact K q h
   ·rw[dH.1 h];exact hp
theorem aoI(l:List Int)(hl:l.length≤400)(hz:ko l)(n:Nat)(hn:n=1∨n=2)(t:List aI)(f:List (List aI))(b:V)(d:Nat)(F:Fr)(H:ag)(R:X→Fr→ag→Prop)(j:Nat)(W:Db l n t f b d j F H)
 (Y:∀A B,Db l n t f b d 0 A B→R (.exit 2) A B):bT (.loop HG) R F H:=by
 refine bW (Db l n t f b d) j W ?_;rintro j a5 c ⟨m,z,J,⟨u,v,w,G,o⟩,r,hm,i,N,s,I,bO,M,L,x,ap,ac,O,K⟩;unfold HG;cases j with
 |zero=>
  simp(disch:=omega)only[go_sem,r,jn,df];refine Y _ _ ⟨m,z,J,⟨?_,?_,?_,?_,?_⟩,?_,hm,i,N,s,I,bO,M,L,x,ap,ac,O,K⟩
  iterate 6 simp only[go_sem,u,v,w,G,o,r]
 |succ j=>
  have a6:=qi n m;simp(disch:=omega)only[go_sem,Wb,u,v,w,o,r,bO,dt];refine iX (JV l hl hz n 2 hn aj) aj N s ?_;rintro _ a ⟨p,hp,rfl⟩ ad;simp(disch:=omega)only[go_sem,jx,kC,bO,true_and];have e:bu (c.set 5 (.cells (eS l a) 0)) 2 z (eZ n m) J:=L.set s _;have Z:bu (c.set 5 (.cells (eS l a) 0)) 2 b (eZ n f) d:=M.set s _;refine jR (bytes:=32) (new:=n9 n p) e rfl aj rfl ⟨aa,aj⟩ fun v2 S U P g k Q=>?_
  obtain⟨T,n2,rfl⟩:=P.slice (by rw[iI]at g;omega);have C:(c.set 5 (.cells (eS l a) 0)).get 5=.cells (eS l a) 0:=by rw[ag.a_,ay rfl]
  have D:(c.set 5 (.cells (eS l a) 0)).get 6=.cells [ai 0,ai 0,.ak,.ak,.ak] 0:=by rw[ag.a_,au aj];exact I
  have E:(c.set 5 (.cells (eS l a) 0)).get 7=.cells [ai (n:Int),ai (n:Int),bV t,b,z] 0:=by rw[ag.a_,au aj];exact bO
  have ab:bu S 2 b (eZ n f) d:=Z.other e (hD Q) k x;simp only[iI]at g k Q;have a3:=(k 5 aa (e.ne C)).trans C;have a4:=(k 6 aa (e.ne D)).trans D;have y:=(k 7 aa (e.ne E)).trans E;simp(disch:=omega)only[go_sem,Wa,o,r,y,aQ];refine⟨j,lU j,m++[p],.slice T 0 n2 (.grown 2),U,⟨?_,?_,?_,?_,?_⟩,?_,?_,a,ad,?_,?_,?_,ab.set y _,?_,?_,?_,?_,O,?_⟩
  iterate 5 simp only[go_sem,u,v,w,G,o]
  ·simp only[go_sem];congr 1;omega
  ·rw[bt,gm];omega
  ·rw[ag.a_,au aj];exact a3
  ·rw[ag.a_,au aj];exact a4
  ·rw[ag.a_,ay rfl]
  ·refine bu.set ?_ y _;rw[yE];simpa [eZ]using P
  ·rcases g with⟨_,g⟩|⟨g,a2⟩
   ·right;omega
   ·rw[a2];exact x
  ·rw[iI];omega
  ·rw[iI];omega
  ·intro q hq;rcases gU.1 hq with h|h
   ·exact K q h
   ·rw[dH.1 h];exact hp
structure iO where
 n:Nat
 obj:List aI
 is:List (List aI)
 es:List (List aI)
structure iO.aM (p:iO):Prop where
 n:p.n=1∨p.n=2
 obj:qD p.n 3 p.obj
 is:∀q∈p.is,qD p.n 2 q
 es:∀q∈p.es,qD p.n 2 q
 li:p.is.length≤2
 le:p.es.length≤1
def mW(p:iO):V:=.agg [ai (p.n:Int),ai (p.n:Int),bV p.obj,gz p.n p.is,gz p.n p.es]
theorem vS(p:iO):bZ (mW p):=.agg (.cons (.int _ _) (.cons (.int _ _) (.cons (tX _) (.cons (IS _ _) (.cons (IS _ _) .nil)))))
variable{c:ag}{J:ag}{a:Nat}{P:List (List aI)}{g:Nat}
theorem I1{v:V}(h:bu c 2 v (eZ a P) g)(d:∀y,g≠0→c.get y=.cells (eZ a P) g→J.get y=.none):cr c J v (gz a P):=by
 obtain⟨m,b,e⟩:=h.dr (H2:=J) aj d (dy.refl _);rw[qi]at e;have:m=P.length:=aa;rw[this]at b;exact b
theorem aoJ(l:List Int)(d:l.length≤400)(f:ko l)(a:Nat)(j:a=1∨a=2):pT l 47 [ai (a:Int),ai 2] fun v=>∃p:iO,p.n=a∧p.aM∧v=mW p:=by
 refine sU (.cons (.int _ _) (.cons (.int _ _) .nil)) fun i S=>bg al5 ?_
 simp only[go_sem,V8,Wf];refine iX (JV l d f a 3 j aj) aj S ?_ ?_
 ·simp only[go_sem,qZ,lE]
 rintro _ i1 ⟨k,ad,rfl⟩ T;simp only[go_sem,We,jx,kC,lE];refine iX (mU l d f 3 aj) aj T ?_ ?_
 ·simp only[go_sem,lE]
 rintro _ i2 ⟨D,bc,rfl⟩ U;simp only[go_sem];refine aoH l d f a j k _ _ _ D ⟨[],.ak,0,⟨?_,?_,?_,?_,?_⟩,?_,by simp;omega,i2,U,?_,?_,?_,.nil,.nil,.inl rfl,?_,?_,(fun _ h=>by cases h),(fun _ h=>by cases h)⟩ ?_
 iterate 9 simp only[go_sem,lE]
 ·exact aR 8
 ·exact(by decide:0<8)
 rintro aw H1 ⟨q,ar,O,⟨u,J,K,L,M⟩,f8,Z,i3,W,w,N,bO,Q,a',be,ac,R,A,a9⟩;rw[fu];simp only[go_sem,Wd,u];refine iX (mU l d f 2 aj) aj W w ?_;rintro _ i4 ⟨E,bd,rfl⟩ X;simp only[go_sem];refine aoI l d f a j k q ar O _ _ _ E ⟨[],.ak,0,⟨?_,?_,?_,?_,?_⟩,?_,by simp;omega,i4,X,?_,?_,?_,Q.set w _,.nil,.inl rfl,?_,?_,A,(fun _ h=>by cases h)⟩ ?_
 iterate 6 simp only[go_sem,u,J,K,L,M]
 ·rw[ag.a_,ay rfl]
 ·rw[ag.a_,au aj];exact N
 ·rw[ag.a_,au aj];exact bO
 ·rw[iI];exact ac
 ·rw[iI];exact R
 rintro a0 s ⟨t,b1,ge,⟨e0,e1,e2,H,I⟩,a5,ab,C,Y,F,r,ap,z,x,bi,bj,ba,bb,P⟩;obtain⟨D,E,cu⟩:=z.bP;obtain⟨l1,l2,l3⟩:=x.bP;rw[fu];simp only[go_sem,Wc,H,I,r,ap,cu,l3];have B:∀(o:eg) y (G:List V) g,g≠0→(s.set 6 o).get y=.cells G g→(∀m,o≠ .cells m g)→(ag.one 5 (s.set 6 o).next (eS l C)).get y=.none:=by
  intro o y G g b c h2;rw[ag.kQ,au];intro h;rw[h,ag.a_,au aj,F]at c;cases c;exact b rfl
 refine⟨C,_,Y,?_,.agg (.cons (.same _) (.cons (.same _) (.cons (.same _) (.cons (I1 (z.set r _) fun y b c=>B _ y _ _ b c (fun m e=>by cases e;exact b rfl)) (.cons (I1 (x.set r _) fun y b c=>B _ y _ _ b c (fun m e=>by cases e;exact b rfl)) .nil))))),vS ⟨a,k,q,t⟩,⟨a,k,q,t⟩,rfl,⟨j,ad,A,P,Z,ab⟩,rfl⟩;exact F
end Go.Proofs.YtddhncjmaahodaaGreatDoor
namespace Go.aE
variable{o:Fr}{c:ag}{j:Option Nat}{a:Nat}{g:Nat}
theorem tS{K:Fr→ag→Prop}{bytes n:Nat}{cs:List V}(h:c.get g=.cells [] 0)(q:0<n)(d:cs.length=n*a)(r:0<a)(k:n≤1073741824∧bytes≤1024)
 (l:∀f b,bu b a f cs (c.next+1)→(∀y,y<c.next→b.get y=c.get y)→b.next=c.next+2→K (put o j f) b):gT j K o (ga a bytes [.slice g 0 0 (.known 0),.row n cs] c):=by
 have i:ec c a n (.row n cs)=some cs:=jH d;have e:ga a bytes [.slice g 0 0 (.known 0),.row n cs] c=l7 c a n cs:=by
  show av (some n) (fun n=>av (ec c a n (.row _ cs)) fun m=>kL a bytes (.slice g 0 0 (.known 0)) n m c)=_;show av (ec c a n (.row n cs)) _=_;rw[i];show Bool.casesOn (motive:=fun _=>Option (V×ag)) (fy n) (bq (ju (0+n) bytes) (Bool.casesOn (motive:=fun _=>Option (V×ag)) (b8 (0+n) 0) (av (c.dw g 0 (0*a)) fun p=>l7 c a (0+n) (ez p cs)) (av (c.e5 g (0+0*a) cs) fun c=>some (V.slice g 0 (0+n) (.known 0),c)))) _=_;rw[su aa,p0 ⟨aa,cI (jO (aa:0+n≤1073741824) k.2) aj⟩,show b8 (0+n) 0=false from by
   cases n with
   |zero=>omega
   |succ n=>rw[fB];rfl,gj h]
  simp only[jE,eY,BR,yz,B4,BL,fB]
 rw[e];refine l _ _ (.cells (f:=c.next) ?_ ?_ (aR _) aa d ?_ ?_) (fun y s=>?_) rfl
 ·rw[ag.bE,au (by show¬(c.next+1=c.next);omega),ag.bE,ay rfl]
 ·rw[ag.bE,ay (show(c.push (.cells cs (Nat.succ c.next))).next=c.next+1 from rfl)]
 ·show c.next+1<c.next+1+1;omega
 ·show c.next<c.next+1+1;omega
 ·rw[ag.bE,au (by show¬(c.next+1=y);omega),ag.bE,au aa]
end Go.aE
namespace Go.Proofs.YtddhncjmaahodaaGreatDoor
open Go.aE Go.aV
def uV(t:aI):List V:=[.str (bS t.1),cG t.2]
def jC:List aI→List V
 |[]=>[]
 |t::l=>uV t++jC l
def eE(l:List aI):V:=.row l.length (jC l)
theorem K1:∀l,(jC l).length=l.length*2
 |[]=>rfl
 |t::l=>by
  simp only[jC,bt,K1 l,di];have:(uV t).length=2:=rfl;omega
theorem C0:∀(l m:List aI),jC (l++m)=jC l++jC m
 |[],_=>rfl
 |t::l,m=>by simp only[fm,jC,C0 l m,eG]
theorem Zr:∀l,cM (jC l)
 |[]=>.nil
 |t::l=>nY (.cons (.str _) (.cons (oQ _) .nil)) (Zr l)
theorem sg(l:List aI):bZ (eE l):=.row _ (Zr l)
inductive nP (H:ag) (go:Nat):List V→List aI→Prop
 |nil:nP H go [] []
 |snoc {xs:List V}{l:List aI}{t:aI}{w:V}{g:Nat} (h:nP H go xs l) (hw:bu H 1 w (cY t.2) g) (hg:go≠g) (hl:g<H.next):nP H go (xs++[.str (bS t.1),w]) (l++[t])
variable{c:ag}{a:Nat}{b:List V}{l:List aI}
theorem nP.len(h:nP c a b l):b.length=l.length*2:=by
 induction h with
 |nil=>rfl
 |snoc h _ _ _ d=>simp only[bt,d,di,lR];omega
variable{J:ag}{g:Nat}
theorem nP.keep(h:nP c a b l)(k:∀v b d,bu c 1 v b d→a≠d→d<c.next→bu J 1 v b d∧g≠d∧d<J.next):nP J g b l:=by
 induction h with
 |nil=>exact .nil
 |snoc _ n j m o=>
  obtain⟨e,f,i⟩:=k _ _ _ n j m;exact .snoc o e f i
theorem x6{e a d:List V}(h:dy c J b a)(f:dy c J e d):dy c J (b++e) (a++d):=by
 induction b generalizing a with
 |nil=>cases h;exact f
 |cons x b j=>cases h with|cons g i=>exact .cons g (j i)
theorem nP.dr{H:ag}(h:nP H a b l):dy H (ag.zero H.next) b (jC l):=by
 induction h with
 |nil=>exact .nil
 |@snoc b l t w g _ e i j f=>
  rw[C0];refine x6 f (.cons (.same _) (.cons ?_ .nil));obtain⟨n,c,d⟩:=e.dr (H2:=ag.zero H.next) aj (fun _ _ _=>jJ) (dy.refl _)
  rw[jG]at d;have:n=t.2.length:=aa;rw[this]at c;exact c
def adM(p:List aI)(n:Nat)(k:Nat)(F:Fr)(H:ag):Prop:=∃(i:Nat) (a:List V) (v:V) (g:Nat),k=p.length-i∧i≤p.length∧rd 1 F=.ptr 5 0∧rd 2 F=.ptr 6 0∧rd 3 F=.ptr 7 0∧rd 4 F=ai (i:Int)∧H.get 5=.cells [ai (n:Int),bV p] 0∧H.get 6=.cells [ai 0,.ak] 0∧H.get 7=.cells [ai (n:Int),v] 0∧bu H 2 v a g∧nP H g a (p.take i)∧8≤H.next
theorem CK{t:aI}(h:l[a]? =some t):l.take (a+1)=l.take a++[t]:=by
 obtain⟨b,rfl⟩:=fo.1 h;exact jZ b
theorem KZ(p:List aI)(n q:Nat)(hn:0<n∧n≤100)(Z:∀t∈p,t.2.length=n)(hq:∀t∈p,bB q t.1)(am:q≤30000000)(hl:p.length≤100000000):bA 49 [jx n p] (.agg [ai (n:Int),eE p]):=by
 refine e3 (.cons (r9 _ _) .nil) (bg al6 ?_);simp only[go_sem,Wg,Wm,Wl,jx,kC];refine bW (adM p n) p.length ⟨0,[],.ak,0,rfl,ck _,?_,?_,?_,?_,?_,?_,?_,.nil,.nil,?_⟩ ?_
 iterate 3 simp only[go_sem]
 ·simp only[go_sem];rfl
 iterate 3 simp only[go_sem]
 ·exact aR 8
 rintro k a4 a ⟨i,F,v,g,rfl,hi,E,L,r,s,u,x,bO,z,j,bb⟩;obtain⟨k1,k2,cu⟩:=z.bP;unfold Wj;by_cases ac:i<p.length
 ·obtain⟨t,A⟩:∃t,p[i]? =some t:=⟨p[i],cH ac⟩;have Q:t∈p:=er A;have Y:=KC A;have K:=wW A;have R:=j.len;rw[ep]at R;simp(disch:=omega)only[go_sem,Wi,E,r,s,u,bO,dt,qc,bN,cO,Y,rW];have P:¬a.next=5:=aa
  have ae:¬a.next=7:=aa
  simp(disch:=omega)only[go_sem,s,qc,bN,K,P];refine use (y2 t.1 (hq t Q) am) ?_;simp(disch:=omega)only[go_sem,u,bO,K,P,ae,true_and];have a7:=Z t Q;refine tS (n:=t.2.length) (cs:=cY t.2) (by rw[ag.bE,ay rfl]) aa (by rw[jG,dQ]) aj ⟨aa,aj⟩ fun w o G V W=>?_
  obtain⟨J,S,rfl⟩:=G.slice aa;have f:∀y,y<a.next→o.get y=a.get y:=fun y hy=>by
   rw[V y (Nat.lt_succ_of_lt hy),ag.bE,au aa]
  have a6:o.next=a.next+3:=W
  have H:=(f 5 aa).trans u;have I:=(f 6 aa).trans x;have D:=(f 7 aa).trans bO;have e:bu o 2 v F g:=z.low f aa;have a8:g=0∨g<a.next:=by
   cases z with
   |nil=>exact .inl rfl
   |cells _ _ _ _ _ h _=>exact .inr h
  simp(disch:=omega)only[go_sem,D,true_and];refine jR (bytes:=40) (new:=[.str (bS t.1),.slice J 0 S (.grown 1)]) e rfl aj rfl ⟨aa,aj⟩ fun v2 H3 M T B l U=>?_
  obtain⟨X,n2,rfl⟩:=T.slice aa;have a0:=(l 5 aa (e.ne H)).trans H;have a1:=(l 6 aa (e.ne I)).trans I;have C:=(l 7 aa (e.ne D)).trans D;have O:∀c,g≠c→c<o.next→M≠c:=fun c b d=>by
   rcases B with⟨_,B⟩|⟨_,B⟩
   ·omega
   ·rw[B];exact b
  simp(disch:=omega)only[go_sem,Wh,r,s,C,aQ];refine⟨p.length-(i+1),aa,i+1,F++[.str (bS t.1),.slice J 0 S (.grown 1)],.slice X 0 n2 (.grown 2),M,rfl,aa,?_,?_,?_,?_,?_,?_,?_,T.set C _,?_,?_⟩
  iterate 3 simp only[go_sem,E,L,r]
  ·simp only[go_sem];rfl
  ·rw[ag.a_,au aj];exact a0
  ·rw[ag.a_,au aj];exact a1
  ·rw[ag.a_,ay rfl]
  ·rw[CK A];refine .snoc (g:=a.next+1+1) (j.keep fun v' a3 c b d N=>⟨?_,O c d aa,?_⟩) ?_ (O _ aa aa) ?_
   ·exact((b.low f aa).other e (hD U) l (.inr d)).set C _
   ·rw[iI];omega
   ·exact(G.other e (hD U) l aa).set C _
   ·rw[iI];omega
  ·rw[iI];omega
 ·have ab:i=p.length:=aa;rw[ab,cq (aR _)]at j;have R:=j.len;simp(disch:=omega)only[go_sem,Wk,E,L,r,s,u,x,bO,df,cu];have ap:nP (a.set 6 (.cells [ai (n:Int),v] 0)) g F p:=j.keep fun v' a3 c b d N=>⟨b.set x _,d,N⟩
  obtain⟨m,b,d⟩:=(z.set x (.cells [ai (n:Int),v] 0)).dr (H2:=ag.zero _) aj (fun _ _ _=>jJ) ap.dr;have hm:m=p.length:=aa;rw[hm]at b;exact⟨_,.agg (.cons (.same _) (.cons b .nil)),.agg (.cons (.int _ _) (.cons (sg _) .nil)),rfl⟩
def eJ(n:Nat)(p:List aI):List V:=[ai (n:Int),eE p]
def g6(n:Nat)(p:List aI):V:=.agg (eJ n p)
def fG(n:Nat):List (List aI)→List V
 |[]=>[]
 |p::l=>eJ n p++fG n l
def cK(n:Nat)(l:List (List aI)):V:=.row l.length (fG n l)
theorem qv(n:Nat):∀l,(fG n l).length=l.length*2
 |[]=>rfl
 |p::l=>by
  simp only[fG,bt,qv n l,di];have:(eJ n p).length=2:=rfl;omega
theorem uU(n:Nat):∀(l m:List (List aI)),fG n (l++m)=fG n l++fG n m
 |[],_=>rfl
 |t::l,m=>by simp only[fm,fG,uU n l m,eG]
theorem Br(n:Nat):∀l,cM (fG n l)
 |[]=>.nil
 |p::l=>nY (.cons (.int _ _) (.cons (sg _) .nil)) (Br n l)
theorem vT(n:Nat)(l:List (List aI)):bZ (cK n l):=.row _ (Br n l)
theorem aoB(n:Nat)(l:List (List aI))(i:Nat):(eZ n l).drop (i*2)=eZ n (l.drop i):=by
 induction l generalizing i with
 |nil=>simp[eZ]
 |cons t l a=>
  cases i with
  |zero=>simp[eZ]
  |succ i=>
   rw[pO,iy];show(n9 n t++eZ n l).drop ((n9 n t).length+i*2)=eZ n (l.drop i);rw[List.drop_length_add_append,a]
variable{P:List (List aI)}
theorem aoC{n:Nat}(h:P[a]? =some l):cF (eA (eZ n P) (a*2)) 2=some (kC n l):=by
 obtain⟨b,rfl⟩:=fo.1 h;rw[jT,aoB,kr b];show cF (n9 n P[a]++eZ n _) 2=_;rw[eR,ay (by simp[n9])];rfl
@[go_sem]theorem avf(n:Nat)(l:List (List aI)):eC (gz n l)=some (.val (ai (l.length:Int))):=rfl
variable{r:Int}{p:IntKind}
theorem ajp(h:0≤r∧r<P.length):dY none 2 [gz a P,.int p r]=some (.val (.dm (eZ a P) (r.toNat*2))):=lz h
theorem ZN{v:V}(h:bu c 2 v (fG a P) g)(d:∀y,g≠0→c.get y=.cells (fG a P) g→J.get y=.none):cr c J v (cK a P):=by
 obtain⟨m,b,e⟩:=h.dr (H2:=J) aj d (dy.refl _);rw[qv]at e;have:m=P.length:=aa;rw[this]at b;exact b
def pU(n q:Nat)(p:List aI):Prop:=(∀t∈p,t.2.length=n)∧(∀t∈p,bB q t.1)∧p.length≤100000000
theorem CY(l:List (List aI))(n q:Nat)(t:0<n∧n≤100)(u:q≤30000000)(w:∀p∈l,pU n q p)(F:l.length≤100000000):bA 50 [gz n l] (cK n l):=by
 refine e3 (.cons (IS _ _) .nil) (bg al7 ?_);simp only[go_sem,Wn,Wt,Ws];refine bW (fun k a h=>∃(i:Nat) (v:V) (g:Nat),k=l.length-i∧i≤l.length∧rd 0 a=gz n l∧rd 3 a=v∧rd 4 a=ai (i:Int)∧bu h 2 v (fG n (l.take i)) g) l.length ⟨0,.ak,0,rfl,ck _,?_,?_,?_,.nil⟩ ?_
 iterate 2 simp only[go_sem]
 ·simp only[go_sem];rfl
 rintro k a h ⟨i,v,g,rfl,E,b,j,c,d⟩;unfold Wq;by_cases s:i<l.length
 ·obtain⟨p,f⟩:∃p,l[i]? =some p:=⟨l[i],cH s⟩;obtain⟨A,B,C⟩:=w p (er f);have m:=aoC (n:=n) f;have x:=qv n (l.take i);rw[ep]at x;simp(disch:=omega)only[go_sem,Wp,b,j,c,dt,ajp,bN,m];refine use (KZ p n q t A B u C) ?_;simp(disch:=omega)only[go_sem];refine jR (bytes:=32) (new:=eJ n p) d rfl aj rfl ⟨aa,aj⟩ fun z D o y G H I=>?_
  simp(disch:=omega)only[go_sem,Wo,c,aQ];refine⟨l.length-(i+1),aa,i+1,z,o,rfl,aa,?_,?_,?_,?_⟩
  iterate 2 simp only[go_sem,b]
  ·simp only[go_sem];rfl
  ·obtain⟨r,e⟩:=fo.1 f;rw[jZ r,e,uU];simpa [fG]using y
 ·simp(disch:=omega)only[go_sem,Wr,b,j,c,df];rw[(aa:i=l.length),cq (aR _)]at d;exact⟨_,ZN d (fun _ _ _=>jJ),vT _ _,rfl⟩
def sC:Nat→List V
 |1=>[.str [120]]
 |_=>[.str [120],.str [121]]
def fk(n:Nat):V:=.row n (sC n)
theorem IQ(n:Nat)(a:n=1∨n=2):bZ (fk n):=by
 rcases a with rfl|rfl
 ·exact .row _ (.cons (.str _) .nil)
 ·exact .row _ (.cons (.str _) (.cons (.str _) .nil))
theorem anJ:oa 5 ov 48 [ai 1] (fk 1)=true:=by kernel_rfl
theorem anK:oa 5 ov 48 [ai 2] (fk 2)=true:=by kernel_rfl
theorem aa2(n:Nat)(a:n=1∨n=2):bA 48 [ai (n:Int)] (fk n):=by
 rcases a with rfl|rfl
 ·exact qk pF anJ
 ·exact qk pF anK
def je(p:iO):V:=.agg [fk p.n,ai (p.n:Int),eE p.obj,cK p.n p.is,cK p.n p.es]
theorem r8(p:iO)(a:p.n=1∨p.n=2):bZ (je p):=.agg (.cons (IQ _ a) (.cons (.int _ _) (.cons (sg _) (.cons (vT _ _) (.cons (vT _ _) .nil)))))
theorem CZ(c:a=1∨a=2)(d:g≤3)(h:qD a g l):pU a 15 l:=
 ⟨fun t b=>(BU c t.2 (h.2.1 t b).1).1,fun t b=>(h.2.1 t b).2.mono aa,by have:=h.2.2;omega⟩
theorem ad6(p:iO)(h:p.aM):bA 9 [mW p] (je p):=by
 have a:=h.n;have c:0<p.n∧p.n≤100:=aa;obtain⟨A,B,C⟩:=CZ a aj h.obj;have s:=KZ p.obj p.n 15 c A B aj C;have t:=CY p.is p.n 15 c aj (fun q f=>CZ a aj (h.is q f)) (by have:=h.li;omega);have u:=CY p.es p.n 15 c aj (fun q f=>CZ a aj (h.es q f)) (by have:=h.le;omega);refine e3 (.cons (vS _) .nil) (bg mb ?_);simp only[go_sem,HZ,H9,mW];refine use (aa2 p.n a) ?_;have r:(sC p.n).length=p.n*1:=by rcases a with e|e<;>rw[e]<;>rfl
 simp only[go_sem,true_and];refine tS (n:=p.n) (cs:=sC p.n) ?_ c.1 r aj ⟨aa,aj⟩ fun w D g i E=>?_
 ·simp only[go_sem]
 obtain⟨k,z,rfl⟩:=g.slice aa;have b:=i 5 (aj:(5:Nat)<8);have d:=i 6 (aj:(6:Nat)<8);simp only[go_sem]at b d;simp only[go_sem,b,true_and];refine use s ?_;simp only[go_sem,b,true_and];refine use t ?_;simp only[go_sem,b,true_and];refine use u ?_;have v:∀l,bP (cK p.n l)=true:=fun _=>rfl
 have x:∀l,cellsOf (cK p.n l)=[cK p.n l]:=fun _=>rfl
 have cu:∀l,V.one (cK p.n l)=true:=fun _=>rfl
 have G:∀l,bP (eE l)=true:=fun _=>rfl
 have H:∀l,cellsOf (eE l)=[eE l]:=fun _=>rfl
 have y:∀l,V.one (eE l)=true:=fun _=>rfl
 simp only[go_sem,d,v,x,cu,y];obtain⟨m,j,F⟩:=(g.set d (.cells [V.slice k 0 z (Cap.grown 1),V.int .i64 (p.n:Int),eE p.obj,cK p.n p.is,cK p.n p.es] 0)).dr (H2:=ag.zero _) aj (fun _ _ _=>jJ) (dy.refl _);have o:m=p.n:=aa;rw[o]at j;exact⟨_,.agg (.cons j (.cons (.same _) (.cons (.same _) (.cons (.same _) (.cons (.same _) .nil))))),r8 p a,rfl⟩
def WY:ah:=.aH [b9 36 28 1,af 28 36]
def WZ:ah:=.seq (.block 1 (an [aX 30 2 26 28,aL 31 2 30,ex 5 (alloc [(ai 0),.ak]),aF 2 5 31] (an [af 32 3,aL 33 2 5,ex 34 (pY [(rd 32),(rd 33)]),fL 35 34] (bl 35 (aB [aP 2 aq]) .skip)))) WY
def HK:ah:=.seq (bl 29 .skip (.exit 0)) WZ
def W3:ah:=an [cw 29 28 27] HK
def W4:ah:=.aH [b9 48 40 1,af 40 48]
def W5:ah:=.seq (.block 3 (an [aX 42 2 38 40,aL 43 2 42,ex 7 (alloc [(ai 0),.ak]),aF 2 7 43] (an [af 44 3,aL 45 2 7,ex 46 (pY [(rd 44),(rd 45)]),fL 47 46] (bl 47 (aB [aP 2 aq]) .skip)))) W4
def HL:ah:=.seq (bl 41 .skip (.exit 2)) W5
def W6:ah:=an [cw 41 40 39] HL
def W7:ah:=aB [af 49 3,aA 50 1 1,aL 51 2 50,ex 52 (pY [(rd 49),(rd 51)]),ao 2 52]
def W8:ah:=.seq (an [aA 37 4 1,aC 38 37,aY 39 38,eL 40 (ai 0)] (.block 2 (.loop W6))) W7
def W0:ah:=.seq (an [aA 25 3 1,aC 26 25,aY 27 26,eL 28 (ai 0)] (.block 0 (.loop W3))) W8
def W1:ah:=an [ex 24 (aaV 114 0 [(rd 1)]),ao 3 24] W0
def W2:ah:=bm [aA 8 0 1,aC 9 8,bk 10 113 9,fL 11 10,af 12 11,c6 12 false 13 3 1,c9 12 false 14 13,aN 12 false 15 (fF (rd 14)),ef 12 false 16 .gtr 15 16,en 17 12 16,af 18 17,c6 18 false 19 4 1,c9 18 false 20 19,aN 18 false 21 (fF (rd 20)),ef 18 false 22 .gtr 21 16,en 23 18 22] 23 (aB [aP 2 aq]) W1
def WX:ah:=an [b7 1 0,aP 2 aq] W2
theorem ame:aZ Tryz.f60 60 WX [.tmp 2]:=bh
def M6:ah:=aB [aL 4 2 2,bk 5 115 4,af 6 5,c6 6 true 7 0 2,c9 6 true 8 7,c6 6 true 9 0 1,c9 6 true 10 9,aN 6 true 11 (fF (rd 10)),aN 6 true 12 (bi .eql (rd 8) (rd 11)),dM 13 6 12,ao 3 13]
def M5:ah:=an [b7 2 0,aP 3 aq] M6
theorem akk:aZ Tryz.f114 114 M5 [.tmp 3]:=bh
def M8:ah:=aB [af 10 4,ao 2 10]
def M9:ah:=an [aL 6 2 1,bk 7 181 6,af 5 7,bn 8 0 5,bn 9 1 5,ao 3 8,ao 4 9] M8
def M7:ah:=an [b7 1 0,aP 2 aq] M9
theorem akl:aZ Tryz.f115 115 M7 [.tmp 2]:=bh
def E1:ah:=aB [af 32 4,ao 2 32,aP 3 cC]
def E2:ah:=bm [af 15 5,fL 16 15,af 17 16,c6 17 false 18 1 1,c9 17 false 19 18,aN 17 false 20 (fF (rd 19)),ef 17 false 21 .gtr 20 0,bG 17 false 22 21,c6 22 true 23 1 1,c9 22 true 24 23,aN 22 true 25 (dX none 2 (rd 24) (kc (ai 0))),c6 22 true 26 1 25,c9 22 true 27 26,aN 22 true 28 (bF 224 [(rd 27)]),aN 22 true 29 (not (rd 28)),aN 17 false 30 (pick (rd 22) (rd 29) (kc aq)),en 31 17 30] 31 (aB [aP 2 .ak,aP 3 aq]) E1
def PE:ah:=an [aL 11 2 1,bk 12 245 11,af 10 12,bn 13 0 10,bn 14 1 10,ao 4 13,ao 5 14] E2
def PF:ah:=bm [aA 6 1 1,aC 7 6,aY 8 7,bH 9 .gtr 8 4096] 9 (aB [aP 2 .ak,aP 3 aq]) PE
def PD:ah:=an [b7 1 0,aP 2 .ak,aP 3 aq] PF
theorem akU:aZ Tryz.f181 181 PD [.tmp 2,.tmp 3]:=bh
def FT:ah:=.aH [b9 59 24 1,af 24 59]
def RL:ah:=.seq (.block 1 (an [af 26 24,aX 27 2 22 24,aL 28 2 27,ex 6 (alloc [(.str []),.ak]),ao 5 26,aF 2 6 28] (an [aA 30 0 1,aC 31 30,aL 32 2 6,bf 33 305 31 32,af 29 33,bn 34 0 29,bn 35 1 29,ex 7 (alloc [(ai 0),(ai 0),(ai 0),(ai 0),(ai 0),(ai 0),aq,.ak,aq,.ak]),aF 10 7 34,ao 8 35] (bm [af 36 8,fL 37 36,af 38 37,bG 38 false 39 5,ef 38 false 40 .gtr 39 0,bG 38 false 41 40,c6 41 true 42 1 1,c9 41 true 43 42,bG 41 true 44 5,ef 41 true 45 .sub 44 1,aN 41 true 46 (dX none 2 (rd 43) (rd 45)),c6 41 true 47 1 46,c9 41 true 48 47,c6 41 true 49 1 6,c9 41 true 50 49,aN 41 true 51 (bF 276 [(rd 48),(rd 50)]),ef 41 true 52 .leq 51 0,aN 38 false 53 (pick (rd 41) (rd 52) (kc aq)),en 54 38 53] 54 (aB [aP 2 .ak,aP 3 aq]) (.aH [af 55 4,aL 56 10 7,ex 57 (cW 1 [(0,10)] [(ai 0),(ai 0),(ai 0),(ai 0),(ai 0),(ai 0),aq,.ak,aq,.ak] [(rd 56)]),eo 58 10 112 55 57,ao 4 58]))))) FT
def FU:ah:=.seq (bl 25 .skip (.exit 0)) RL
def RM:ah:=an [cw 25 24 23] FU
def RN:ah:=aB [af 60 4,ao 2 60,aP 3 cC]
def RO:ah:=.seq (an [aA 21 1 1,aC 22 21,aY 23 22,eL 24 (ai 0)] (.block 0 (.loop RM))) RN
def RP:ah:=an [aA 17 1 1,aC 18 17,aY 19 18,ex 20 (ms 112 [(ai 0),(ai 0),(ai 0),(ai 0),(ai 0),(ai 0),aq,.ak,aq,.ak] (kc (ai 0)) (rd 19)),ao 4 20] RO
def RQ:ah:=bm [aA 9 0 1,aC 10 9,bH 11 .lss 10 0,af 12 11,c6 12 false 13 0 1,c9 12 false 14 13,ef 12 false 15 .gtr 14 6,en 16 12 15] 16 (aB [aP 2 .ak,aP 3 aq]) RP
def RK:ah:=an [b7 1 0,aP 2 .ak,aP 3 aq] RQ
theorem alk:aZ Tryz.f245 245 RK [.tmp 2,.tmp 3]:=bh
def TP:ah:=.aH [b9 45 34 1,af 34 45]
def TQ:ah:=.seq (.block 1 (an [aX 36 1 32 34,aC 37 36,ao 9 37] (an [af 38 9,bH 39 .lss 38 0,af 40 39,bG 40 false 41 9,ef 40 false 42 .gtr 41 1048576,en 43 40 42] (bl 43 (aB [ex 44 (cD [] [(ai 0),(ai 0),(ai 0),(ai 0),(ai 0),(ai 0),aq,.ak,aq,.ak] []),aF 10 4 44,aP 5 aq]) .skip)))) TP
def Gn:ah:=.seq (bl 35 .skip (.exit 0)) TQ
def Gp:ah:=an [cw 35 34 33] Gn
def TS:ah:=aB [aL 53 10 10,aF 10 4 53,aP 5 cC]
def TT:ah:=an [aA 48 0 10,ex 49 (mY 6 1 false false false [(rd 48)]),aA 50 1 3,aC 51 50,ex 52 (r3 1 (rd 49) (rd 51))] TS
def TU:ah:=an [aL 46 4 6,aA 47 6 10,aF 4 47 46] TT
def TV:ah:=an [ex 10 (alloc [(ai 0),(ai 0),(ai 0),(ai 0),(ai 0),(ai 0),aq,.ak,aq,.ak])] TU
def TW:ah:=.seq (an [aA 31 1 3,aC 32 31,aY 33 32,eL 34 (ai 0)] (.block 0 (.loop Gp))) TV
def TX:ah:=bm [af 17 7,fL 18 17,af 19 18,jY 19 false 20 4 6,aN 19 false 21 (bF 277 [(rd 20)]),en 22 19 21,af 23 22,c6 23 false 24 1 3,c9 23 false 25 24,aN 23 false 26 (fF (rd 25)),bG 23 false 27 0,aN 23 false 28 (bi .neq (rd 26) (rd 27)),en 29 23 28] 29 (aB [ex 30 (cD [] [(ai 0),(ai 0),(ai 0),(ai 0),(ai 0),(ai 0),aq,.ak,aq,.ak] []),aF 10 4 30,aP 5 aq]) TW
def TR:ah:=an [aA 12 0 3,aC 13 12,bk 14 163 13,af 11 14,bn 15 0 11,bn 16 1 11,ex 6 (alloc [aq,.ak,aq,.ak]),aF 4 6 15,ao 7 16] TX
def TO:ah:=an [b7 3 1,ex 4 (alloc [(ai 0),(ai 0),(ai 0),(ai 0),(ai 0),(ai 0),aq,.ak,aq,.ak]),aP 5 aq] TR
theorem alI:aZ Tryz.f305 305 TO [.cell 4 true 10,.tmp 5]:=bh
def OY:ah:=aB [aL 41 4 6,aF 4 2 41,aP 3 cC]
def OZ:ah:=bm [aA 33 0 6,aL 34 2 33,aA 35 2 6,aL 36 2 35,bf 37 123 34 36,bk 38 124 37,fL 39 38] 39 (aB [ex 40 (cD [] [aq,.ak,aq,.ak] []),aF 4 2 40,aP 3 aq]) OY
def O0:ah:=an [aA 29 2 4,aC 30 29,bk 31 122 30,aA 32 2 6,aF 2 32 31] OZ
def zJ:ah:=bm [aA 25 2 4,aC 26 25,ex 27 (bs .eql (rd 26) (kc (.str [])))] 27 (aB [aL 28 4 6,aF 4 2 28,aP 3 cC]) O0
def EG:ah:=bm [aA 19 0 4,aC 20 19] 20 (.aH [aA 21 0 6,aL 22 2 21,bk 23 231 22,aA 24 0 6,aF 2 24 23]) zJ
def O1:ah:=an [aA 15 1 4,aC 16 15,bk 17 122 16,ex 18 (cD [(0,2)] [aq,.ak,aq,.ak] [(rd 17)]),ex 6 (alloc [aq,.ak,aq,.ak]),aF 4 6 18] EG
def EH:ah:=bm [af 12 5,fL 13 12] 13 (aB [ex 14 (cD [] [aq,.ak,aq,.ak] []),aF 4 2 14,aP 3 aq]) O1
def O2:ah:=an [af 8 0,bk 9 121 8,af 7 9,bn 10 0 7,bn 11 1 7,ex 4 (alloc [aq,(.str []),(.str [])]),aF 3 4 10,ao 5 11] EH
def OX:ah:=an [ex 2 (alloc [aq,.ak,aq,.ak]),aP 3 aq] O2
theorem akG:aZ Tryz.f163 163 OX [.cell 2 true 4,.tmp 3]:=bh
def vw:ah:=aB [aL 58 3 4,af 59 5,ex 60 (bs .eql (rd 59) (kc (.str []))),af 61 60,c6 61 true 62 2 4,c9 61 true 63 62,aN 61 true 64 (bs .neq (rd 63) (kc (.str []))),dM 65 61 64,af 66 65,c6 66 true 67 2 4,c9 66 true 68 67,aN 66 true 69 (g9 (rd 68) (kc (ai 0))),aN 66 true 70 (bi .neq (rd 69) (kc (.int .u8 48))),dM 71 66 70,af 72 71,c6 72 true 73 2 4,c9 72 true 74 73,aN 72 true 75 (bs .neq (rd 74) (kc (.str [49]))),dM 76 72 75,aF 3 2 58,rg 72 true 74 (ct false 1 (rd 73)),ao 3 76]
def NB:ah:=an [af 52 5,ex 53 (lJ true false false [(rd 52),(kc (ai 1))]),bk 54 186 53,af 51 54,bn 55 0 51,bn 56 1 51,aA 57 2 4,aF 1 57 55,ao 5 56] vw
def rY:ah:=.seq (.block 0 (an [aA 21 1 4,aC 22 21,ex 23 (bs .eql (rd 22) (kc (.str [48]))),ao 20 23] (bl 20 (aB [aL 24 3 4,af 25 6,fL 26 25,af 27 26,bG 27 true 28 5,aN 27 true 29 (bs .eql (rd 28) (kc (.str []))),dM 30 27 29,aF 3 2 24,ao 3 30]) (an [aA 32 1 4,aC 33 32,ex 34 (bs .eql (rd 33) (kc (.str []))),af 35 34,c6 35 false 36 1 4,c9 35 false 37 36,aN 35 false 38 (g9 (rd 37) (kc (ai 0))),aN 35 false 39 (bi .eql (rd 38) (kc (.int .u8 48))),en 40 35 39,ao 31 40] (bl 31 (aB [aL 41 3 4,aF 3 2 41,aP 3 aq]) (an [af 43 5,ex 44 (bs .eql (rd 43) (kc (.str []))),ao 42 44] (bl 42 (aB [aL 45 3 4,aF 3 2 45,aP 3 cC]) (an [af 47 5,ex 48 (g9 (rd 47) (kc (ai 0))),bR 49 .neq 48 .u8 47,ao 46 49] (bl 46 (aB [aL 50 3 4,aF 3 2 50,aP 3 aq]) .skip))))))))) NB
def NC:ah:=an [af 15 5,bk 16 186 15,af 14 16,bn 17 0 14,bn 18 1 14,aA 19 1 4,aF 1 19 17,ao 5 18] rY
def ND:ah:=an [af 12 6,aA 13 0 4,aF 1 13 12] NC
def NF:ah:=an [af 8 0,ex 9 (bF 185 [(rd 8),(kc (.str [45]))]),af 7 9,bn 10 0 7,bn 11 1 7,ao 5 10,ao 6 11] ND
def NG:ah:=an [ex 4 (alloc [aq,(.str []),(.str [])])] NF
def NA:ah:=an [ex 2 (alloc [aq,(.str []),(.str [])]),aP 3 aq] NG
theorem akq:aZ Tryz.f121 121 NA [.cell 2 true 3,.tmp 3]:=bh
def P_:ah:=.block 1 (.aH [af 21 4,b9 22 21 1,ao 4 22])
def Qa:ah:=.seq (an [af 5 4,af 6 0,ex 7 (iF (rd 6)),cw 8 5 7,af 9 8,bG 9 true 10 0,bG 9 true 11 4,aN 9 true 12 (g9 (rd 10) (rd 11)),aN 9 true 13 (bi .leq (kc (.int .u8 48)) (rd 12)),dM 14 9 13,af 15 14,bG 15 true 16 0,bG 15 true 17 4,aN 15 true 18 (g9 (rd 16) (rd 17)),aN 15 true 19 (bi .leq (rd 18) (kc (.int .u8 57))),dM 20 15 19] (bl 20 .skip (.exit 0))) P_
def zS:ah:=aB [af 23 0,af 24 4,ex 25 (lJ false true false [(rd 23),(rd 24)]),af 26 0,af 27 4,ex 28 (lJ true false false [(rd 26),(rd 27)]),ao 2 25,ao 3 28]
def Qb:ah:=.seq (.block 0 (.loop Qa)) zS
def Qc:ah:=an [bI 4 0] Qb
def P9:ah:=an [aP 2 (.str []),aP 3 (.str [])] Qc
theorem akZ:aZ Tryz.f186 186 P9 [.tmp 2,.tmp 3]:=bh
def P8:ah:=aB [af 6 0,af 7 1,bf 8 246 6 7,bn 9 0 8,bn 10 1 8,ao 4 9,ao 5 10]
def P7:ah:=an [aP 4 (.str []),aP 5 aq] P8
theorem akY:aZ Tryz.f185 185 P7 [.tmp 4,.tmp 5]:=bh
def RS:ah:=aB [af 11 0,af 12 1,ex 13 (iF (rd 12)),ex 14 (lJ true false false [(rd 11),(rd 13)]),ao 4 14,aP 5 cC]
def RT:ah:=bm [af 6 0,af 7 1,bf 8 306 6 7,fL 9 8] 9 (aB [af 10 0,ao 4 10,aP 5 aq]) RS
def RR:ah:=an [aP 4 (.str []),aP 5 aq] RT
theorem alm:aZ Tryz.f246 246 RR [.tmp 4,.tmp 5]:=bh
def Gr:ah:=aB [af 5 0,ex 6 (iF (rd 5)),af 7 1,ex 8 (iF (rd 7)),bD 9 .geq 6 8,af 10 9,bG 10 true 11 0,bG 10 true 12 1,aN 10 true 13 (iF (rd 12)),aN 10 true 14 (lJ false true false [(rd 11),(rd 13)]),bG 10 true 15 1,aN 10 true 16 (bs .eql (rd 14) (rd 15)),dM 17 10 16,ao 4 17]
def Gq:ah:=an [aP 4 aq] Gr
theorem alJ:aZ Tryz.f306 306 Gq [.tmp 4]:=bh
def NI:ah:=aB [af 3 0,bk 4 187 3,ex 5 (cD [(1,1)] [aq,.ak] [(rd 4)]),aF 2 2 5]
def NH:ah:=an [ex 2 (alloc [aq,.ak])] NI
theorem akr:aZ Tryz.f122 122 NH [.cell 2 true 2]:=bh
def aeI:ah:=.aH [af 24 3,af 25 4,af 26 4,bf 27 237 25 26,ex 28 (cW 1 [(0,1)] [.ak] [(rd 27)]),eo 29 1 24 24 28,ao 3 29]
def aeJ:ah:=.block 1 (an [af 18 3,af 19 3,aY 20 19,cL 21 20 1,aX 22 1 18 21,aC 23 22,ao 4 23] aeI)
def aeK:ah:=.seq (an [af 12 3,aY 13 12,ex 14 (bi .shl (kc (ai 19)) (rd 13)),af 15 0,ex 16 (iF (rd 15)),cw 17 14 16] (bl 17 .skip (.exit 0))) aeJ
def Qe:ah:=aB [af 30 0,af 31 3,bf 32 247 30 31,ao 2 32]
def Qf:ah:=bm [af 5 0,ex 6 (iF (rd 5)),bH 7 .gtr 6 570] 7 (an [af 8 3,ex 9 (cW 1 [(0,1)] [(az 0)] [(kc (az 10000000000000000000))]),ex 10 (cW 1 [(0,1)] [.ak] [(rd 9)]),eo 11 1 24 8 10,ao 3 11] (.block 0 (.loop aeK))) Qe
def Qg:ah:=an [aP 3 .ak] Qf
def Qd:ah:=an [aP 2 .ak] Qg
theorem ak0:aZ Tryz.f187 187 Qd [.tmp 2]:=bh
def ae2:ah:=.block 1 (.aH [af 20 5,cL 21 20 1,ao 5 21])
def RV:ah:=.seq (an [af 11 5,bH 12 .geq 11 0,af 13 12,bG 13 true 14 5,aN 13 true 15 (bi .shl (kc (ai 19)) (rd 14)),bG 13 true 16 0,aN 13 true 17 (iF (rd 16)),aN 13 true 18 (bi .geq (rd 15) (rd 17)),dM 19 13 18] (bl 19 .skip (.exit 0))) ae2
def ae3:ah:=aB [af 48 7,af 49 0,af 50 6,ex 51 (lJ true false false [(rd 49),(rd 50)]),af 52 1,af 53 5,ex 54 (jk 1 false true false [(rd 52),(rd 53)]),bf 55 247 51 54,bf 56 239 48 55,ao 4 56]
def ae4:ah:=an [af 36 0,af 37 6,ex 38 (lJ false true false [(rd 36),(rd 37)]),af 39 1,af 40 5,ex 41 (jk 1 false true false [(rd 39),(rd 40)]),af 43 1,af 44 5,aX 45 1 43 44,aC 46 45,bf 42 247 38 41,ey 46 45,bf 47 237 42 46,ao 7 47] ae3
def ae5:ah:=an [af 31 0,ex 32 (iF (rd 31)),af 33 5,ex 34 (bi .shl (kc (ai 19)) (rd 33)),bD 35 .sub 32 34,ao 6 35] ae4
def RW:ah:=bm [af 22 5,bH 23 .lss 22 0,af 24 23,bG 24 false 25 0,aN 24 false 26 (iF (rd 25)),ef 24 false 27 .leq 26 570,en 28 24 27] 28 (aB [af 29 0,bk 30 307 29,ao 4 30]) ae5
def RX:ah:=.seq (.block 0 (.loop RV)) RW
def RY:ah:=an [af 8 1,aY 9 8,cL 10 9 1,ao 5 10] RX
def RU:ah:=an [aP 4 .ak] RY
theorem aln:aZ Tryz.f247 247 RU [.tmp 4]:=bh
def TZ:ah:=.aH [b9 37 25 1,af 25 37]
def T0:ah:=.seq (.block 3 (an [aX 27 1 23 25,aC 28 27,ao 8 28] (an [af 29 5,ex 30 (bi .mul (kc (az 10)) (rd 29)),af 31 8,bR 32 .sub 31 .u8 48,c7 33 .u64 32,cU 34 30 33,ao 5 34] (.aH [af 35 6,bR 36 .mul 35 .u64 10,ao 6 36])))) TZ
def Gs:ah:=.seq (bl 26 .skip (.exit 2)) T0
def Gt:ah:=an [cw 26 25 24] Gs
def T':ah:=.aH [b9 59 44 1,af 44 59]
def Ua:ah:=.seq (.block 5 (an [af 46 44,aX 47 1 42 44,aC 48 47,ao 10 46,ao 11 48] (.aH [af 50 3,af 51 10,af 52 11,af 53 6,af 54 9,kG 55 311 52 53 54,af 49 55,bn 56 0 49,bn 57 1 49,aX 58 1 50 51,aF 1 58 56,ao 9 57]))) T'
def Ax:ah:=.seq (bl 45 .skip (.exit 4)) Ua
def xQ:ah:=an [cw 45 44 43] Ax
def Gu:ah:=bl 61 (.aH [af 62 3,af 63 9,ex 64 (cW 1 [(0,1)] [(az 0)] [(rd 63)]),eo 65 1 8 62 64,ao 3 65]) .skip
def Gv:ah:=an [af 60 9,bR 61 .neq 60 .u64 0] Gu
def T1:ah:=.seq (an [af 42 3,aY 43 42,eL 44 (ai 0)] (.block 4 (.loop xQ))) Gv
def T2:ah:=an [af 41 5,ao 9 41] T1
def T3:ah:=an [af 38 0,af 39 4,ex 40 (lJ true false false [(rd 38),(rd 39)]),ao 0 40] T2
def T4:ah:=.seq (an [af 20 0,af 21 4,ex 22 (lJ false true false [(rd 20),(rd 21)]),ex 23 (YI (rd 22)),aY 24 23,eL 25 (ai 0)] (.block 2 (.loop Gt))) T3
def T5:ah:=an [aP 5 (az 0),aP 6 (az 1)] T4
def T6:ah:=.block 1 (an [af 15 0,ex 16 (iF (rd 15)),cL 17 16 1,bH 18 .rem 17 19,b9 19 18 1,ao 4 19] T5)
def T7:ah:=.seq (an [af 12 0,ex 13 (iF (rd 12)),bH 14 .gtr 13 0] (bl 14 .skip (.exit 0))) T6
def T8:ah:=aB [af 66 3,ao 2 66]
def T9:ah:=.seq (.block 0 (.loop T7)) T8
def T_:ah:=an [aP 3 .ak] T9
def TY:ah:=an [aP 2 .ak] T_
theorem alK:aZ Tryz.f307 307 TY [.tmp 2]:=bh
def NK:ah:=aB [aA 5 1 2,aC 6 5,aA 7 1 3,aC 8 7,bf 9 188 6 8,ex 10 (cD [(1,1)] [aq,.ak] [(rd 9)]),aF 2 4 10]
def NJ:ah:=an [b7 2 0,b7 3 1,ex 4 (alloc [aq,.ak])] NK
theorem aks:aZ Tryz.f123 123 NJ [.cell 4 true 2]:=bh
def Qi:ah:=.block 3 (.aH [af 47 6,ex 48 (cW 1 [(0,1)] [(az 0)] [(kc (az 0))]),eo 49 1 8 47 48,ao 6 49])
def E7:ah:=.seq (an [af 42 6,aY 43 42,af 44 5,aY 45 44,cw 46 43 45] (bl 46 .skip (.exit 2))) Qi
def Qm:ah:=.aH [af 54 5,bk 55 252 54,af 56 6,bk 57 252 56,ao 5 55,ao 6 57]
def Qn:ah:=an [aL 50 5 7,af 51 5,af 52 6,kG 53 251 50 51 52] Qm
def Qo:ah:=.seq (.block 2 (.loop E7)) Qn
def E8:ah:=bm [aA 30 2 7,aC 31 30,bR 32 .eql 31 .u64 0] 32 (an [af 34 5,af 35 6,bf 36 250 34 35,af 33 36,bn 37 0 33,bn 38 1 33,ao 8 37,ao 9 38] (an [af 39 6,af 40 9,bk 41 248 40,ao 5 39,ao 6 41] (.exit 1))) Qo
def Qp:ah:=.block 1 (an [af 27 5,af 28 6,bf 29 249 27 28,ex 7 (alloc [(az 0),(az 0),(az 0),(az 0),aq]),aF 5 7 29] E8)
def E9:ah:=.seq (an [af 24 6,aY 25 24,bH 26 .gtr 25 1] (bl 26 .skip (.exit 0))) Qp
def Qq:ah:=aB [af 62 6,ex 63 (dX none 1 (rd 62) (kc (ai 0))),aC 64 63,af 65 5,af 66 6,ex 67 (dX none 1 (rd 66) (kc (ai 0))),aC 68 67,bf 69 255 65 68,ey 64 63,bf 70 254 64 69,bk 71 253 70,ao 4 71]
def zU:ah:=bm [af 58 6,aY 59 58,bH 60 .eql 59 0] 60 (aB [af 61 5,ao 4 61]) Qq
def Qj:ah:=.seq (.block 0 (.loop E9)) zU
def Qk:ah:=an [af 20 0,bk 21 248 20,af 22 1,bk 23 248 22,ao 5 21,ao 6 23] Qj
def zT:ah:=bm [af 16 1,aY 17 16,bH 18 .eql 17 0] 18 (aB [af 19 0,ao 4 19]) Qk
def Ql:ah:=bm [af 10 0,af 11 1,bf 12 235 10 11,bH 13 .lss 12 0] 13 (.aH [af 14 1,af 15 0,ao 0 14,ao 1 15]) zT
def Qh:ah:=an [aP 4 .ak] Ql
theorem ak1:aZ Tryz.f188 188 Qh [.tmp 4]:=bh
def Rs:ah:=.aH [af 21 5,cL 22 21 1,ao 5 22]
def z8:ah:=.seq (.block 1 (an [af 23 0,af 24 5,aX 25 1 23 24,aC 26 25,af 27 1,af 28 5,aX 29 1 27 28,aC 30 29,bD 31 .neq 26 30] (bl 31 (aB [af 32 0,af 33 5,aX 34 1 32 33,aC 35 34,af 36 1,af 37 5,aX 38 1 36 37,aC 39 38,bf 40 299 35 39,ao 4 40]) .skip))) Rs
def Rt:ah:=.seq (an [af 19 5,bH 20 .geq 19 0] (bl 20 .skip (.exit 0))) z8
def Ru:ah:=aB [bI 4 0]
def Rv:ah:=.seq (an [af 16 0,aY 17 16,cL 18 17 1,ao 5 18] (.block 0 (.loop Rt))) Ru
def z9:ah:=bm [af 6 0,aY 7 6,af 8 1,aY 9 8,bD 10 .neq 7 9] 10 (aB [af 11 0,aY 12 11,af 13 1,aY 14 13,bf 15 298 12 14,ao 4 15]) Rv
def z7:ah:=an [bI 4 0] z9
theorem ald:aZ Tryz.f235 235 z7 [.tmp 4]:=bh
def F4:ah:=.aH [af 34 1,af 35 0,bD 36 .sub 34 35,ao 1 36]
def F5:ah:=bm [af 29 0,af 30 1,bD 31 .gtr 29 30] 31 (.aH [af 32 1,af 33 0,ao 0 32,ao 1 33]) F4
def Sk:ah:=.block 1 (an [af 25 1,af 26 1,bk 27 313 26,bD 28 .shr 25 27,ao 1 28] F5)
def Sl:ah:=.seq (an [af 23 1,bR 24 .neq 23 .u64 0] (bl 24 .skip (.exit 0))) Sk
def Sm:ah:=aB [af 37 0,af 38 5,bD 39 .shl 37 38,ao 4 39]
def Sn:ah:=.seq (.block 0 (.loop Sl)) Sm
def So:ah:=an [af 19 0,af 20 0,bk 21 313 20,bD 22 .shr 19 21,ao 0 22] Sn
def Sp:ah:=an [af 15 0,af 16 1,bD 17 .or 15 16,bk 18 313 17,ao 5 18] So
def Am:ah:=bm [af 6 0,bR 7 .eql 6 .u64 0,af 8 7,bG 8 false 9 1,aN 8 false 10 (bi .eql (rd 9) (kc (az 0))),en 11 8 10] 11 (aB [af 12 0,af 13 1,bD 14 .or 12 13,ao 4 14]) Sp
def Al:ah:=an [aP 4 (az 0)] Am
theorem alr:aZ Tryz.f254 254 Al [.tmp 4]:=bh
def Sr:ah:=.aH [af 12 6,cL 13 12 1,ao 6 13]
def Ss:ah:=.seq (.block 1 (.aH [af 15 5,af 16 0,af 17 6,aX 18 1 16 17,aC 19 18,af 20 1,kG 21 314 15 19 20,af 14 21,bn 22 0 14,bn 23 1 14,ao 5 23])) Sr
def St:ah:=.seq (an [af 10 6,bH 11 .geq 10 0] (bl 11 .skip (.exit 0))) Ss
def Su:ah:=aB [af 24 5,ao 4 24]
def Sv:ah:=.seq (an [af 7 0,aY 8 7,cL 9 8 1,ao 6 9] (.block 0 (.loop St))) Su
def Sw:ah:=an [aP 5 (az 0)] Sv
def Sq:ah:=an [aP 4 (az 0)] Sw
theorem als:aZ Tryz.f255 255 Sq [.tmp 4]:=bh
def Rk:ah:=aB [aA 3 0 1,aC 4 3,fL 5 4,aA 6 1 1,aC 7 6,bf 8 236 5 7,aF 2 2 8]
def Rj:ah:=an [b7 1 0,ex 2 (alloc [aq,.ak])] Rk
theorem ala:aZ Tryz.f231 231 Rj [.cell 2 true 2]:=bh
def Aa:ah:=aB [af 5 0,af 6 5,bG 6 true 7 1,aN 6 true 8 (fF (rd 7)),ef 6 true 9 .gtr 8 0,dM 10 6 9,af 11 1,ex 12 (cD [(0,1),(1,1)] [aq,.ak] [(rd 10),(rd 11)]),aF 2 4 12]
def z_:ah:=an [ex 4 (alloc [aq,.ak])] Aa
theorem ale:aZ Tryz.f236 236 z_ [.cell 4 true 2]:=bh
def O6:ah:=aB [aA 3 1 1,aC 4 3,aY 5 4,bH 6 .eql 5 0,ao 2 6]
def O5:ah:=an [b7 1 0,aP 2 aq] O6
theorem akI:aZ Tryz.f165 165 O5 [.tmp 2]:=bh
def zF:ah:=aB [aA 3 0 1,aC 4 3,fL 5 4,af 6 5,c6 6 true 7 1 1,c9 6 true 8 7,aN 6 true 9 (fF (rd 8)),ef 6 true 10 .eql 9 1,dM 11 6 10,af 12 11,c6 12 true 13 1 1,c9 12 true 14 13,aN 12 true 15 (dX none 1 (rd 14) (kc (ai 0))),c9 12 true 16 15,aN 12 true 17 (bi .eql (rd 16) (kc (az 1))),dM 18 12 17,ao 2 18]
def zE:ah:=an [b7 1 0,aP 2 aq] zF
theorem akt:aZ Tryz.f124 124 zE [.tmp 2]:=bh
def SC:ah:=.aH [b9 26 12 1,af 12 26]
def SD:ah:=.seq (.block 1 (an [af 14 12,aX 15 1 10 12,aC 16 15,ao 7 14,ao 8 16] (an [af 17 5,af 18 8,cU 19 17 18,ao 5 19] (.aH [af 20 6,af 21 1,af 22 7,aX 23 1 21 22,aC 24 23,cU 25 20 24,ao 6 25])))) SC
def An:ah:=.seq (bl 13 .skip (.exit 0)) SD
def SG:ah:=an [cw 13 12 11] An
def SH:ah:=.aH [af 38 9,cL 39 38 1,ao 9 39]
def F6:ah:=.seq (.block 3 (an [af 40 0,af 41 9,aX 42 1 40 41,aC 43 42,af 44 1,af 45 9,aX 46 1 44 45,aC 47 46,bD 48 .neq 43 47] (bl 48 (aB [af 49 1,af 50 9,aX 51 1 49 50,aC 52 51,af 53 0,af 54 9,aX 55 1 53 54,aC 56 55,bf 57 298 52 56,ao 4 57]) .skip))) SH
def SI:ah:=.seq (an [af 36 9,bH 37 .geq 36 0] (bl 37 .skip (.exit 2))) F6
def SJ:ah:=aB [bI 4 0]
def SK:ah:=.seq (an [af 33 0,aY 34 33,cL 35 34 1,ao 9 35] (.block 2 (.loop SI))) SJ
def F7:ah:=bm [af 27 5,af 28 6,bD 29 .neq 27 28] 29 (aB [af 30 5,af 31 6,bf 32 298 30 31,ao 4 32]) SK
def SE:ah:=.seq (an [af 10 0,aY 11 10,eL 12 (ai 0)] (.block 0 (.loop SG))) F7
def SF:ah:=an [bI 5 0,bI 6 0] SE
def SB:ah:=an [bI 4 0] SF
theorem alw:aZ Tryz.f276 276 SB [.tmp 4]:=bh
def Tg:ah:=aB [bI 4 0]
def Gi:ah:=bm [af 17 0,af 18 1,bD 19 .gtr 17 18] 19 (aB [bI 4 1]) Tg
def Ar:ah:=bm [af 14 0,af 15 1,cw 16 14 15] 16 (aB [ex 4 (fq (kc (ai (-1))))]) Gi
def As:ah:=bm [af 13 6] 13 (aB [bI 4 1]) Ar
def At:ah:=bm [af 11 5] 11 (bm [af 12 6] 12 (aB [bI 4 0]) (aB [ex 4 (fq (kc (ai (-1))))])) As
def Th:ah:=an [af 9 1,bk 10 288 9,ao 6 10] At
def Ti:ah:=an [af 7 0,bk 8 288 7,ao 5 8] Th
def Tf:ah:=an [bI 4 0] Ti
theorem alD:aZ Tryz.f298 298 Tf [.tmp 4]:=bh
def SO:ah:=aB [af 3 0,af 4 0,bD 5 .neq 3 4,ao 2 5]
def SN:ah:=an [aP 2 aq] SO
theorem aly:aZ Tryz.f288 288 SN [.tmp 2]:=bh
def Q4:ah:=aB [af 3 0,bk 4 290 3,bH 5 .geq 4 0,ao 2 5]
def Q3:ah:=an [aP 2 aq] Q4
theorem ak7:aZ Tryz.f224 224 Q3 [.tmp 2]:=bh
def SQ:ah:=.aH [b9 26 11 1,af 11 26]
def SR:ah:=.seq (.block 1 (an [aX 13 1 9 11,aC 14 13,ao 5 14] (bm [af 15 5,bH 16 .lss 15 0,af 17 16,bG 17 false 18 5,bG 17 false 19 3,aN 17 false 20 (bi .sub (kc (ai 24)) (rd 19)),aN 17 false 21 (bi .gtr (rd 18) (rd 20)),en 22 17 21] 22 (aB [ex 2 (fq (kc (ai (-1))))]) (.aH [af 23 3,af 24 5,cU 25 23 24,ao 3 25])))) SQ
def F8:ah:=.seq (bl 12 .skip (.exit 0)) SR
def SS:ah:=an [cw 12 11 10] F8
def SU:ah:=aB [af 27 3,ao 2 27]
def SV:ah:=.seq (an [af 9 0,aY 10 9,eL 11 (ai 0)] (.block 0 (.loop SS))) SU
def SW:ah:=an [bI 3 0] SV
def SX:ah:=bm [af 6 0,aY 7 6,bH 8 .gtr 7 6] 8 (aB [ex 2 (fq (kc (ai (-1))))]) SW
def SP:ah:=an [bI 2 0] SX
theorem alz:aZ Tryz.f290 290 SP [.tmp 2]:=bh
def RZ:ah:=aB [ex 5 (cW 0 [] [(az 0)] []),af 6 0,eo 7 1 8 5 6,ao 2 7]
def FW:ah:=bm [af 3 0,ex 4 (be false (.slice 166) (rd 3) (kc .ak))] 4 (aB [aP 2 .ak]) RZ
def FV:ah:=an [aP 2 .ak] FW
theorem aak:aZ Tryz.f248 248 FV [.tmp 2]:=bh
def Sj:ah:=aB [af 5 0,ex 6 (cW 1 [(0,1)] [(az 0)] [(rd 5)]),ao 2 6]
def F3:ah:=bm [af 3 0,bR 4 .eql 3 .u64 0] 4 (aB [aP 2 .ak]) Sj
def F2:ah:=an [aP 2 .ak] F3
theorem alq:aZ Tryz.f253 253 F2 [.tmp 2]:=bh
def GB:ah:=bl 85 (.exit 0) .skip
def GC:ah:=an [af 84 16,bR 85 .geq 84 .u64 4294967296] GB
def GD:ah:=an [af 81 16,af 82 9,cU 83 81 82,ao 16 83] GC
def AJ:ah:=.block 1 (an [af 79 15,bR 80 .sub 79 .u64 1,ao 15 80] GD)
def GI:ah:=.seq (an [af 67 15,bR 68 .geq 67 .u64 4294967296,af 69 68,bG 69 false 70 15,bG 69 false 71 10,aN 69 false 72 (bi .mul (rd 70) (rd 71)),bG 69 false 73 16,aN 69 false 74 (bi .mul (kc (az 4294967296)) (rd 73)),bG 69 false 75 13,aN 69 false 76 (bi .add (rd 74) (rd 75)),aN 69 false 77 (bi .gtr (rd 72) (rd 76)),en 78 69 77] (bl 78 .skip (.exit 0))) AJ
def GJ:ah:=bl 120 (.exit 2) .skip
def GK:ah:=an [af 119 16,bR 120 .geq 119 .u64 4294967296] GJ
def GL:ah:=an [af 116 16,af 117 9,cU 118 116 117,ao 16 118] GK
def AK:ah:=.block 3 (an [af 114 18,bR 115 .sub 114 .u64 1,ao 18 115] GL)
def GM:ah:=.seq (an [af 102 18,bR 103 .geq 102 .u64 4294967296,af 104 103,bG 104 false 105 18,bG 104 false 106 10,aN 104 false 107 (bi .mul (rd 105) (rd 106)),bG 104 false 108 16,aN 104 false 109 (bi .mul (kc (az 4294967296)) (rd 108)),bG 104 false 110 14,aN 104 false 111 (bi .add (rd 109) (rd 110)),aN 104 false 112 (bi .gtr (rd 107) (rd 111)),en 113 104 112] (bl 113 .skip (.exit 2))) AK
def Un:ah:=aB [af 121 15,bR 122 .mul 121 .u64 4294967296,af 123 18,cU 124 122 123,af 125 17,bR 126 .mul 125 .u64 4294967296,af 127 14,cU 128 126 127,af 129 18,af 130 2,bD 131 .mul 129 130,bD 132 .sub 128 131,af 133 8,bD 134 .shr 132 133,ao 6 124,ao 7 134]
def Uo:ah:=.seq (.block 2 (.loop GM)) Un
def Up:ah:=an [af 97 17,af 98 18,af 99 9,bD 100 .mul 98 99,bD 101 .sub 97 100,ao 16 101] Uo
def Uq:ah:=an [af 94 17,af 95 9,bD 96 .quo 94 95,ao 18 96] Up
def Ur:ah:=an [af 86 11,bR 87 .mul 86 .u64 4294967296,af 88 13,cU 89 87 88,af 90 15,af 91 2,bD 92 .mul 90 91,bD 93 .sub 89 92,ao 17 93] Uq
def Us:ah:=.seq (.block 0 (.loop GI)) Ur
def Ut:ah:=an [af 62 11,af 63 15,af 64 9,bD 65 .mul 63 64,bD 66 .sub 62 65,ao 16 66] Us
def Uu:ah:=an [af 59 11,af 60 9,bD 61 .quo 59 60,ao 15 61] Ut
def Uv:ah:=an [af 57 12,bR 58 .and 57 .u64 4294967295,ao 14 58] Uu
def Uw:ah:=an [af 55 12,bR 56 .shr 55 .u64 32,ao 13 56] Uv
def Ux:ah:=an [af 52 1,af 53 8,bD 54 .shl 52 53,ao 12 54] Uw
def Uy:ah:=an [af 44 0,af 45 8,bD 46 .shl 44 45,af 47 1,af 48 8,ex 49 (bi .sub (kc (az 64)) (rd 48)),bD 50 .shr 47 49,bD 51 .or 46 50,ao 11 51] Ux
def Uz:ah:=an [af 42 2,bR 43 .and 42 .u64 4294967295,ao 10 43] Uy
def UA:ah:=an [af 40 2,bR 41 .shr 40 .u64 32,ao 9 41] Uz
def UB:ah:=an [af 37 2,af 38 8,bD 39 .shl 37 38,ao 2 39] UA
def UC:ah:=an [af 34 2,bk 35 308 34,c7 36 .u64 35,ao 8 36] UB
def GF:ah:=bm [af 26 0,bR 27 .eql 26 .u64 0] 27 (aB [af 28 1,af 29 2,bD 30 .quo 28 29,af 31 1,af 32 2,bD 33 .rem 31 32,ao 6 30,ao 7 33]) UC
def GG:ah:=bm [af 22 2,af 23 0,bD 24 .leq 22 23] 24 (.aH [ex 25 (ct false 1 (kc (.ptr 3 0))),eP b4.bad]) GF
def GH:ah:=bm [af 19 2,bR 20 .eql 19 .u64 0] 20 (.aH [ex 21 (ct false 1 (kc (.ptr 2 0))),eP b4.bad]) GG
def GA:ah:=an [aP 6 (az 0),aP 7 (az 0)] GH
theorem aao:aZ Tryz.f314 314 GA [.tmp 6,.tmp 7]:=bh
def Ul:ah:=aB [af 5 0,af 6 0,ex 7 (neg (rd 6)),bD 8 .and 5 7,bR 9 .mul 8 .u64 285870213051353865,bR 10 .shr 9 .u64 58,ex 11 (dX (some 64) 1 (kc (.ptr 1 0)) (rd 10)),aC 12 11,c7 13 .i64 12,ao 2 13]
def Um:ah:=bm [af 3 0,bR 4 .eql 3 .u64 0] 4 (aB [bI 2 64]) Ul
def Uk:ah:=an [bI 2 0] Um
theorem alN:aZ Tryz.f313 313 Uk [.tmp 2]:=bh
def SM:ah:=aB [aA 3 0 1,aL 4 2 3,bk 5 165 4,ao 2 5]
def SL:ah:=an [b7 1 0,aP 2 aq] SM
theorem alx:aZ Tryz.f277 277 SL [.tmp 2]:=bh
def Uh:ah:=aB [af 23 9,af 24 8,af 25 10,cU 26 24 25,ao 6 23,ao 7 26]
def Ui:ah:=an [af 18 9,af 19 2,ex 20 (nA qN [(rd 18),(rd 19),(kc (az 0))]),af 17 20,bn 21 0 17,bn 22 1 17,ao 9 21,ao 10 22] Uh
def Uj:ah:=an [af 12 0,af 13 1,bf 14 356 12 13,af 11 14,bn 15 0 11,bn 16 1 11,ao 8 15,ao 9 16] Ui
def Ug:ah:=an [aP 6 (az 0),aP 7 (az 0)] Uj
theorem alM:aZ Tryz.f311 311 Ug [.tmp 6,.tmp 7]:=bh
def Tk:ah:=aB [bI 4 0]
def Gj:ah:=bm [af 17 0,af 18 1,bD 19 .gtr 17 18] 19 (aB [bI 4 1]) Tk
def Au:ah:=bm [af 14 0,af 15 1,cw 16 14 15] 16 (aB [ex 4 (fq (kc (ai (-1))))]) Gj
def Av:ah:=bm [af 13 6] 13 (aB [bI 4 1]) Au
def Aw:ah:=bm [af 11 5] 11 (bm [af 12 6] 12 (aB [bI 4 0]) (aB [ex 4 (fq (kc (ai (-1))))])) Av
def Tl:ah:=an [af 9 1,bk 10 355 9,ao 6 10] Aw
def Tm:ah:=an [af 7 0,bk 8 355 7,ao 5 8] Tl
def Tj:ah:=an [bI 4 0] Tm
theorem alE:aZ Tryz.f299 299 Tj [.tmp 4]:=bh
def U5:ah:=aB [af 3 0,af 4 0,bD 5 .neq 3 4,ao 2 5]
def U4:ah:=an [aP 2 aq] U5
theorem alS:aZ Tryz.f355 355 U4 [.tmp 2]:=bh
end Go.Proofs.YtddhncjmaahodaaGreatDoor
namespace Go.aE
theorem Jm:∀s t:List UInt8,fE m3 s t=decide (s=t)
 |[],[]=>rfl
 |[],_::_=>rfl
 |_::_,[]=>rfl
 |a::s,b::t=>by
  show and (m3 a b) (fE m3 s t)=_;rw[Jm s t,KJ];by_cases c:a=b
  ·by_cases d:s=t
   ·simp[c,d]
   ·simp[d]
  ·simp[c]
@[go_sem]theorem at4(s t:List UInt8):od (oP .eql) [.str s,.str t]=some (.val (.bool (decide (s=t)))):=by
 show iq (fE m3 s t)=_;rw[Jm];rfl
@[go_sem]theorem at5(s t:List UInt8):od (oP .neq) [.str s,.str t]=some (.val (.bool (!decide (s=t)))):=by
 show iq (!(fE m3 s t))=_;rw[Jm];rfl
variable{i:List UInt8}
theorem Kp{b a:Option V}{l h:Nat}(c:jg b a i.length i.length=some (l,h))(d:l≤h)(e:h≤i.length):uN i b a=some (.val (.str ((i.drop l).take (h-l)))):=by
 unfold uN;rw[gx,c];show av (cF (eA i l) (h-l)) _=_;rw[jT,eR,ay (by rw[gF];omega)];rfl
variable{p:IntKind}{r:Int}
theorem uP(h:0≤r∧r≤i.length):slice3 kg true false false [.str i,.int p r]=some (.val (.str (i.drop r.toNat))):=by
 show uN i (some (.int p r)) none=_;rw[Kp (l:=r.toNat) (h:=i.length) (qQ (k8 p h.1) rfl aa (aR _)) aa (aR _)];rw[cq (by rw[gF];omega)]
theorem CF(a:0≤r∧r≤i.length):slice3 kg false true false [.str i,.int p r]=some (.val (.str (i.take r.toNat))):=by
 show uN i none (some (.int p r))=_;rw[Kp (l:=0) (h:=r.toNat) (qQ rfl (k8 p a.1) aa aa) aa aa];simp
theorem nt{c:UInt8}(a:0≤r)(h:i[r.toNat]? =some c):jS [.str i,.int p r]=some (.val (.int .u8 (c.toNat:Int))):=by
 show av (fU (.int p r)) _=_;rw[k8 p a];show av (eu i r.toNat) _=_;rw[iW,h];rfl
def qM(P:Program)(G:Nat)(b:Bool)(d:Option Nat)(l:List b_)(Q:Fr→ag→Prop)(F:Fr)(H:ag)(r:Option V)(v:V):Prop:=match l8 b v with
 |some true=>ou P G d l Q F H r
 |some false=>fZ P G l F H Q
 |none=>False
variable{a:Nat}{m:Bool}{j:Option Nat}{f:Fr→ag→Prop}{o:Fr}{c:ag}{s:V}
@[congr]theorem atn{P:Program}{l:List b_}{r b:Option V}{v:V}(h:r=b)(d:v=s):qM P a m j l f o c r v=qM P a m j l f o c b s:=by rw[h,d]
section
variable {P:Program}{G:Nat}{F:Fr}{H:ag}{Q:Fr→ag→Prop}
@[go_sem↓]theorem atz(j:Nat)(b:Bool)(i:Nat)(g:Bool)(s:Nat)(x:Fr→V)(l:List b_):j3 P G (rg j b i (ct g s x)::l) Q F H=qM P G b (some i) l Q F H (hH g s [x F] H) (rd j F):=by
 show(uW ⟨fun F=>l8 b (rd j F),some i,.rd [x] (hH g s)⟩ F H∧fZ P G l F H Q)=_;unfold qM;apply propext;cases e:l8 b (rd j F)with
 |none=>
  refine⟨fun⟨h,_⟩=>?_,False.elim⟩;rcases h with h|⟨h,_⟩
  ·have h:l8 b (rd j F)=some false:=h;rw[e]at h;cases h
  ·have h:l8 b (rd j F)=some true:=h;rw[e]at h;cases h
 |some y=>
  cases y with
  |false=>exact⟨fun h=>h.2,fun h=>⟨.inl e,h⟩⟩
  |true=>
   show _↔ou P G (some i) l Q F H (hH g s [x F] H);unfold ou;rw[Lw (w:=fun F=>l8 b (rd j F)) e];exact Iff.rfl
@[go_sem]theorem atr(d:Option Nat)(l:List b_)(r:Option V):qM P G true d l Q F H r (.bool true)=ou P G d l Q F H r:=rfl
@[go_sem]theorem ato(d:Option Nat)(l:List b_)(r:Option V):qM P G false d l Q F H r (.bool false)=ou P G d l Q F H r:=rfl
@[go_sem]theorem atq(d:Option Nat)(l:List b_)(r:Option V):qM P G true d l Q F H r (.bool false)=j3 P G l Q F H:=rfl
@[go_sem]theorem atp(d:Option Nat)(l:List b_)(r:Option V):qM P G false d l Q F H r (.bool true)=j3 P G l Q F H:=rfl
@[go_sem]theorem att(b:Bool)(d:Option Nat)(l:List b_)(r:Option V):qM P G b d l Q F H r (.aK [])=j3 P G l Q F H:=rfl
end
end Go.aE
namespace Go.Proofs.YtddhncjmaahodaaGreatDoor
open Go.aE Go.aV
def adF(b:List UInt8):Prop:=∀c l,b=c::l→¬dV c
theorem ago(a b:List UInt8)(t:∀c∈a,dV c)(u:adF b)(A:a.length+b.length≤1000000000):bA 186 [.str (a++b)] (.aK [.str a,.str b]):=by
 refine cT (.cons (.str _) .nil) (.aK (.cons (.str _) (.cons (.str _) .nil))) (bg akZ ?_);simp only[go_sem,P9,Qc,Qb];have j:(a++b).length=a.length+b.length:=bt;refine bW (fun k l q=>∃i:Nat,k=a.length-i∧i≤a.length∧rd 0 l=.str (a++b)∧rd 4 l=ai (i:Int)) a.length ⟨0,rfl,ck _,?_,?_⟩ ?_
 ·simp only[go_sem]
 ·simp only[go_sem];rfl
 rintro k l q ⟨i,rfl,z,d,f⟩;unfold Qa;by_cases w:i<a.length
 ·obtain⟨c,e⟩:∃c,(a++b)[i]? =some c:=⟨_,cH aa⟩;have v:c∈a:=by
   rw[k3 w]at e;exact er e
  have p:=t c v;have r:=p.1;have s:=p.2;have g:jS [.str (a++b),ai (i:Int)]=some (.val (.int .u8 (c.toNat:Int))):=nt aa (by rw[bN];exact e);simp(disch:=omega)only[go_sem,P_,d,f,j,dt,df,g,aQ];refine⟨a.length-(i+1),aa,i+1,rfl,aa,?_,?_⟩
  ·simp only[go_sem,d]
  ·simp only[go_sem];rfl
 ·have m:i=a.length:=aa;have n:slice3 kg false true false [.str (a++b),ai (i:Int)]=some (.val (.str a)):=by
   rw[CF ⟨aa,aa⟩,bN,m,oD]
  have o:slice3 kg true false false [.str (a++b),ai (i:Int)]=some (.val (.str b)):=by
   rw[uP ⟨aa,aa⟩,bN,m,List.drop_left]
  cases b with
  |nil=>
   have x:(a++[]).length=a.length:=aJ;simp(disch:=omega)only[go_sem,zS,d,f,x,df,n,o]
  |cons c b=>
   have e:(a++c::b)[i]? =some c:=by rw[m,pI (aR _)];simp
   have y:=u c b rfl;have g:jS [.str (a++c::b),ai (i:Int)]=some (.val (.int .u8 (c.toNat:Int))):=nt aa (by rw[bN];exact e);simp only[di]at j;by_cases r:c.toNat<48
   ·simp(disch:=omega)only[go_sem,zS,d,f,j,dt,g,n,o]
   ·have s:57<c.toNat:=by
     refine m6 fun h=>y ⟨aa,aa⟩
    simp(disch:=omega)only[go_sem,zS,d,f,j,dt,df,g,n,o]
theorem ai2(s:List UInt8)(e:s.length≤1000000000):bA 306 [.str s,.str [45]] (.bool (decide (s.take 1=[45]))):=by
 refine cT (.cons (.str _) (.cons (.str _) .nil)) (.bool _) (bg alJ ?_);cases s with
 |nil=>simp(disch:=omega)only[go_sem,Gq,Gr,lR,gm,jn,Int.natCast_one,dt];rfl
 |cons c s=>
  have a:((([45]:List UInt8).length:Nat):Int)=1:=rfl;have d:¬(((c::s).length:Nat):Int)<1:=by simp;omega
  have b:slice3 kg false true false [.str (c::s),ai 1]=some (.val (.str ((c::s).take 1))):=CF ⟨aj,by simp;omega⟩;simp(disch:=assumption)only[go_sem,Gq,Gr,a,df,b]
theorem agp(s:List UInt8)(b:s.length≤1000000000):bA 185 [.str s,.str [45]] (if s.take 1=[45]then .aK [.str (s.drop 1),cC]else .aK [.str s,aq]):=by
 have a:bA 246 [.str s,.str [45]] (if s.take 1=[45]then .aK [.str (s.drop 1),cC]else .aK [.str s,aq]):=by
  refine cT (.cons (.str _) (.cons (.str _) .nil)) (by split<;>exact .aK (.cons (.str _) (.cons (.bool _) .nil))) (bg alm ?_);simp only[go_sem,RR,RT];refine use (ai2 s b) ?_;by_cases h:s.take 1=[45]
  ·have d:((([45]:List UInt8).length:Nat):Int)=1:=rfl;have f:1≤s.length:=by
    cases s with
    |nil=>cases h
    |cons c s=>simp
   have e:slice3 kg true false false [.str s,ai 1]=some (.val (.str (s.drop 1))):=uP ⟨aj,aa⟩;simp(disch:=assumption)only[go_sem,RS,dt,d,e];rw[ay h]
  ·simp(disch:=assumption)only[go_sem,df];rw[au h]
 refine cT (.cons (.str _) (.cons (.str _) .nil)) (by split<;>exact .aK (.cons (.str _) (.cons (.bool _) .nil))) (bg akY ?_);simp only[go_sem,P7,P8];refine use a ?_;split
 iterate 2 simp only[go_sem]
variable{a:Nat}
theorem ags:dec a=[49]↔a=1:=by
 have b:dec 1=[49]:=by
  show(if 1=0 then _ else ds 1)=_;rw[au aj,nW aj,show 1/10=0 from rfl,lf];rfl
 constructor
 ·intro h;exact Iq (h.trans b.symm)
 ·intro h;rw[h];exact b
def ax(n:Nat):List Nat:=if h:n=0 then []else n%18446744073709551616::ax (n/18446744073709551616)
termination_by n
decreasing_by omega
theorem js:ax 0=[]:=by rw[ax];simp
theorem IB(h:a≠0):ax a=a%18446744073709551616::ax (a/18446744073709551616):=by rw[ax];simp[h]
theorem IC(h:a≠0)(b:a<18446744073709551616):ax a=[a]:=by
 rw[IB h,jr b,lT b,js]
theorem iE(n:Nat):0<(ax n).length↔n≠0:=by
 constructor
 ·intro h e;rw[e,js]at h;exact absurd h (Nat.lt_irrefl _)
 ·intro h;rw[IB h];exact nh _
def aT(l:List Nat):List V:=l.map fun d:Nat=>V.int .u64 (d:Int)
def bz(l:List Nat):V:=.row l.length (aT l)
theorem eD(l:List Nat):(aT l).length=l.length:=by simp[aT]
theorem ahJ(l:List Nat):cM (aT l):=cM.iff.2 fun v h=>by
 simp only[aT,nc]at h;obtain⟨d,_,rfl⟩:=h;exact .int _ _
theorem dA(l:List Nat):bZ (bz l):=.row _ (ahJ l)
@[go_sem]theorem avl(l:List Nat):eC (bz l)=some (.val (ai (l.length:Int))):=rfl
@[go_sem]theorem au2(l:List Nat):bP (bz l)=true:=rfl
@[go_sem]theorem aup(l:List Nat):cellsOf (bz l)=[bz l]:=rfl
@[go_sem]theorem avS(l:List Nat):V.one (bz l)=true:=rfl
variable{d:List Nat}{r:Int}{p:IntKind}
theorem gw(h:0≤r∧r<d.length):dY none 1 [bz d,.int p r]=some (.val (.dm (aT d) r.toNat)):=by
 rw[bz,lz h,dQ]
theorem dB(h:a<d.length):eu (aT d) a=some (az ((d.getD a 0:Nat):Int)):=by
 rw[iW];simp[aT,h]
def c5(z:Int):List V:=[.bool (decide (z<0)),bz (ax z.natAbs)]
def b6(z:Int):V:=.agg (c5 z)
theorem ahI(z:Int):cM (c5 z):=.cons (.bool _) (.cons (dA _) .nil)
theorem fh(z:Int):bZ (b6 z):=.agg (ahI z)
theorem gR(n:Nat):b6 (n:Int)=.agg [aq,bz (ax n)]:=by
 unfold b6 c5;rw[show decide (((n:Nat):Int)<0)=false from bp aa];rfl
theorem af0(s:List UInt8)(O:∀c∈s,dV c)(V:s.length≤19)(gr:Nat)(A:Cap)(F:Fr)(H:ag)(R:X→Fr→ag→Prop)(r:rd 23 F=.slice gr 0 s.length A)(u:rd 24 F=ai (s.length:Int))(B:rd 25 F=ai 0)(C:rd 5 F=az 0)(D:rd 6 F=az 1)(E:H.get gr=.cells (cn s) 0)
 (G:∀b,(∀t,t<5→rd t b=rd t F)→rd 5 b=az ((dv s:Nat):Int)→rd 6 b=az ((10^s.length:Nat):Int)→R (.exit 2) b H):bT (.loop Gt) R F H:=by
 refine bW (fun k a q=>∃i:Nat,k=s.length-i∧i≤s.length∧(∀t,t<5→rd t a=rd t F)∧rd 23 a=rd 23 F∧rd 24 a=rd 24 F∧rd 25 a=ai (i:Int)∧rd 5 a=az ((dv (s.take i):Nat):Int)∧rd 6 a=az ((10^i:Nat):Int)∧dv (s.take i)<10^i∧q=H) s.length
  ⟨0,rfl,ck _,fun _ _=>rfl,rfl,rfl,B,by rw[C];rfl,by rw[D];rfl,by simp[dv],rfl⟩ ?_
 rintro k a q ⟨i,rfl,U,w,j,f,v,g,h,z,rfl⟩;rw[r]at j;rw[u]at f;unfold Gt;by_cases L:i<s.length
 ·obtain⟨c,l⟩:∃c,s[i]? =some c:=⟨_,cH L⟩;have x:=O c (er l);have S:=x.1;have T:=x.2;have J:eu (cn s) i=some (.int .u8 (c.toNat:Int)):=by rw[iW,cn,qE,l];rfl
  have M:10^i≤10^18:=fN aj aa;have P:s.take (i+1)=s.take i++[c]:=by
   obtain⟨K,e⟩:=fo.1 l;rw[jZ K,e]
  have m:dv (s.take (i+1))=10*dv (s.take i)+(c.toNat-48):=by rw[P,vN]
  have n:10^(i+1)=10^i*10:=c3 _ _;obtain⟨d,I⟩:∃d,d=dv (s.take i):=⟨_,rfl⟩;obtain⟨p,N⟩:∃p,p=10^i:=⟨_,rfl⟩;rw[←I]at g z m;rw[←N]at h z M n;have W:(cn s).length=s.length:=iD s;have Y:aG .u64 ((c.toNat:Int)-48)=((c.toNat-48:Nat):Int):=by rw[cj _ aa];omega
  have Q:aG .u8 ((c.toNat:Int)-48)=((c.toNat-48:Nat):Int):=by rw[IL _ aa];omega
  simp(disch:=omega)only[go_sem,Gs,T0,TZ,j,f,v,g,h,dt,cR,dQ,fB,bN,E,J,Q,cj,aQ];refine⟨s.length-(i+1),aa,i+1,rfl,aa,fun t o=>?_,?_,?_,?_,?_,?_,?_,rfl⟩
  ·simp(disch:=omega)only[cc];exact w t o
  iterate 2 simp only[go_sem,j,r,f,u]
  ·simp only[go_sem];rfl
  ·simp only[go_sem];rw[m];congr 1
  ·simp only[go_sem];rw[n];congr 1
  ·rw[m,n];omega
 ·have y:i=s.length:=aa;rw[y,cq (aR _)]at g;rw[y]at h;simp(disch:=omega)only[go_sem,Gs,f,v,df];refine G _ (fun t o=>?_) ?_ ?_
  ·simp(disch:=omega)only[cc];exact w t o
  iterate 2 simp only[go_sem,g,h]
theorem nr(s:List UInt8)(a:∀c∈s,dV c):dv s<10^s.length:=by
 have:∀r:List UInt8,(∀c∈r,dV c)→dv r.reverse<10^r.length:=by
  intro r;induction r with
  |nil=>intro _;decide
  |cons c r d=>
   intro h;have e:=d fun x b=>h x (by simp[b])
   have f:=(h c aJ).2;rw[List.reverse_cons,vN,di,c3];omega
 have:=this s.reverse (by simpa using a);simpa using this
theorem am2(s:List UInt8):lmap (fun b=>V.int .u8 (.ofNat b.toNat)) s=cn s:=by
 induction s with
 |nil=>rfl
 |cons a s c=>show _::lmap _ s=_;rw[c];rfl
variable{c:ag}
theorem ah_{v:V}(h:bu c 1 v (aT d) a):cr c (ag.zero c.next) v (bz d):=by
 obtain⟨n,b,e⟩:=h.dr (H2:=ag.zero c.next) aj (fun _ _ _=>jJ) (dy.refl _)
 rw[eD]at e;have:n=d.length:=aa;rw[this]at b;exact b
theorem uM(s:Bool)(n:Nat):bA 236 [.bool s,bz (ax n)] (b6 (if s then-(n:Int)else n)):=by
 refine cT (.cons (.bool _) (.cons (dA _) .nil)) (fh _) (bg ale ?_);have b:=iE n;cases s with
 |false=>
  simp only[go_sem,z_,Aa,kj];rw[gR]
 |true=>
  by_cases h:n=0
  ·have a:¬(0:Int)<(((ax n).length:Nat):Int):=by rw[h,js];decide
   simp(disch:=assumption)only[go_sem,z_,Aa,df];rw[h];rfl
  ·have a:(0:Int)<(((ax n).length:Nat):Int):=by have:=b.2 h;omega
   simp(disch:=assumption)only[go_sem,z_,Aa,dt];unfold b6 c5;rw[bw (aa: -((n:Nat):Int)<0),lO,cV]
theorem adr(z:Int):bA 231 [b6 z] (b6 (-z)):=by
 refine cT (.cons (fh _) .nil) (fh _) (bg ala ?_);simp only[go_sem,Rj,Rk,b6,c5];refine use (uM _ _) ?_;simp only[go_sem,b6,c5];have:(if(!decide (z<0))=true then-((z.natAbs:Nat):Int)else(z.natAbs:Int))= -z:=by
  by_cases h:z<0
  ·simp[h];omega
  ·simp[h];omega
 rw[this]
theorem v7(z:Int):bA 165 [b6 z] (.bool (decide (z=0))):=by
 refine cT (.cons (fh _) .nil) (.bool _) (bg akI ?_);have a:=iE z.natAbs;have e:decide ((((ax z.natAbs).length:Nat):Int)=0)=decide (z=0):=decide_eq_decide.2 aa;simp only[go_sem,O5,O6,b6,c5,e]
theorem agY:ax 1=[1]:=IC aj aj
end Go.Proofs.YtddhncjmaahodaaGreatDoor
namespace Go.aE
def ag.lW(T:ag)(n:Nat):ag:=⟨T.m,n⟩
theorem ag.ua(T:ag)(n y:Nat):(T.lW n).get y=T.get y:=rfl
structure xo (G:Nat) (T:ag):Prop where
 next:T.next=G
 top:∀y,G≤y→T.get y=.none
 low:∀y,T.get y=.none∨∃cs,T.get y=.cells cs 0∧cM cs
variable{a:Nat}{c:ag}{g:Nat}{b:List V}{z:Nat}
theorem xo.cells(h:xo a c)(e:c.get g=.cells b z):g<a∧z=0∧cM b:=by
 refine⟨rQ fun j=>?_,?_⟩
 ·rw[h.top g j]at e;cases e
 ·rcases h.low g with d|⟨k,d,i⟩
  ·rw[d]at e;cases e
  ·rw[d]at e;cases e;exact⟨rfl,i⟩
def Has(H T:ag):Prop:=∀y a,T.get y=.cells a 0→H.get y=.cells a 0
section
variable {P:Program}{G:Nat}{φ:aO}{H T:ag}{w:World}
theorem Rel.yW(j:Rel φ H w)(hT:xo G T)(m:Has H T):Rel (φ.view id G) T w:=by
 have B:∀ {y:Nat},H.get y=.none→T.get y=.none:=by
  intro y e;rcases hT.low y with h|⟨d,h,_⟩
  ·exact h
  ·rw[m y d h]at e;cases e
 refine⟨?_,?_,?_,?_,?_,?_,?_,?_,?_,?_,?_⟩
 ·intro y l d g i v b a k r;obtain⟨f,rfl,s⟩:=hT.cells a;obtain⟨F,C,D⟩:=j.cell (aO.mw b).2 (m y d a) rfl r;exact⟨F,C,aS.free (φ:=φ) (ψ:=φ.view id G) (fun _ _ e=>e) (cM.iff.1 s _ (er r)) D⟩
 ·intro y l i e h;exact j.room (aO.mw e).2 h
 ·intro y l d g b a;obtain⟨f,rfl,s⟩:=hT.cells a;exact j.len (aO.mw b).2 (m y d a)
 ·intro y q l p b a k n;right;have u:∀ {y q:Nat}{l p:Loc},φ y=some l→φ q=some p→l.c=p.c→y≠q→T.get y=.none:=by
   intro y q l p b a k n;rcases hT.low y with h|⟨d,h,_⟩
   ·exact h
   ·rcases j.inj b a k n with⟨_,_,g,A,f,_⟩|⟨f,_⟩
    ·rw[m y d h]at f;cases f;exact absurd rfl A
    ·rw[m y d h]at f;cases f
  exact⟨u (aO.mw b).2 (aO.mw a).2 k n,u (aO.mw a).2 (aO.mw b).2 k.symm (fun e=>n e.symm)⟩
 ·intro y t;rw[hT.next]at t
  exact⟨au aa,hT.top y t⟩
 ·intro y l e;exact j.loc (aO.mw e).2
 ·intro y d g E z b a k;exact absurd (hT.cells b).2.1 a
 ·intro g E z e;rcases hT.low g with h|⟨d,h,_⟩
  ·rw[h]at e;cases e
  ·rw[h]at e;cases e
 ·intro y l o b a;rcases hT.low y with h|⟨d,h,_⟩
  ·rw[h]at a;cases a
  ·rw[h]at a;cases a
 ·intro I x e;refine(j.fj e).keep rfl ?_;intro y l b a;exact B ((j.fj e).off _ _ (aO.mw b).2 a)
 ·intro y d g e;obtain⟨f,rfl,_⟩:=hT.cells e;rw[hT.next];omega
variable{A:FuncId}
theorem aoV(hT:xo G T){R:V→Prop}(ha:cM b)
 (O:e6 P G (.fn A) b T fun v1 t=>Has t T∧∃v,cr t (T.lW t.next) v1 v∧bZ v∧R v) (H:ag) (F:Has H T):
 e6 P G (.fn A) b H fun v t=>R v∧t=H:=by
 refine⟨O.1,fun φ w a1 q hg a6=>(O.2 (φ.view id G) w a1 (q.yW hT F) ?_ (bC.free (φ:=φ) (ψ:=φ.view id G) (fun _ _ e=>e) ha a6)).mono ?_⟩
 ·intro g ar;obtain⟨be,e⟩:=hg g ar;exact⟨be,aO.rG ar e⟩
 ·rintro e w' ⟨v1,v',t,ψ,rfl,s,bd,ae,v,a8,Y,hR⟩;have a':∀y,y<G→t.get y=T.get y:=by
   intro y C;rcases hT.low y with u|⟨d,u,_⟩
   ·rw[u];cases j:φ.view id G y with
    |some l=>exact(s.iU j u).1
    |none=>
     rw[s.mQ (by rw[hT.next];exact C) j (fun a m k=>by rw[u]at k;cases k)]
     exact u
   ·rw[u];exact ae y d u
  have X:Cut G t (T.lW t.next):=by
   refine⟨fun y=>?_,rfl,fun y D c1 c2 g u p z I=>?_⟩
   ·rw[ag.ua];by_cases C:y<G
    ·exact .inl (a' y C).symm
    ·exact .inr ⟨ja C,hT.top y (ja C)⟩
   ·rw[ag.ua];rcases hT.low D with h|⟨d,h,_⟩
    ·exact h
    ·rw[ae D d h]at z;cases z;exact absurd rfl u
  have ac:=s.rel.cut X;have L:=(s.wX (B:=G) (by rw[hT.next];exact aR _)).trans (s.rel.vR X (by have:=s.next;rw[hT.next]at this;exact this))
  have aw:=aS.dr s.rel X a8 bd;generalize ψ.dr t (T.lW t.next) w'=E at ac L aw
  have Q:∀ {n:Nat},n<w.heap.size→(∀y l d,φ y=some l→l.c=n→T.get y≠ .cells d 0)→w'.heap[n]? =w.heap[n]? :=by
   intro n O bb;by_cases hb:∃m l,φ.view id G m=some l∧l.c=n
   ·obtain⟨m,l,j,rfl⟩:=hb;rcases hT.low m with h|⟨d,h,_⟩
    ·exact(s.iU j h).2
    ·exact absurd h (bb m l d (aO.mw j).2 rfl)
   ·exact s.kR O (fun m l j k=>hb ⟨m,l,j,k⟩)
  have W:∀ {y:Nat}{l:Loc},(∀d,T.get y≠ .cells d 0)→φ y=some l→∀D N d,φ D=some N→N.c=l.c→T.get D≠ .cells d 0:=by
   intro y l C e D N d e' a7 B;have ba:D≠y:=fun k=>C d (k▸B)
   rcases q.inj e' e a7 ba with⟨_,_,g,u,p,_⟩|⟨p,_⟩
   ·rw[F D d B]at p;cases p;exact absurd rfl u
   ·rw[F D d B]at p;cases p
  have am:∀n x,E.im n=some x→φ.im n=some x∨w.heap.size≤n∨∃m l d,φ m=some l∧E m=some l∧l.c=n∧T.get m=.cells d 0:=by
   intro n x e;rcases L.l6 n x e with h|h|⟨m,l,p,z,I⟩
   ·exact .inl h
   ·exact .inr (.inl h)
   ·rcases hT.low m with h|⟨d,h,_⟩
    ·exact absurd h I
    ·exact .inr (.inr ⟨m,l,d,(aO.mw p).2,L.le (aO.mw p).1 p,z,h⟩)
  have ab:φ.le ⟨φ.f,E.im⟩:=⟨fun _ _ e=>e,L.wg⟩;have ap:∀ {x:V}{K:Value},bZ x→aS E x K→aS ⟨φ.f,E.im⟩ x K:=fun h r=>aS.free (φ:=E) (ψ:=⟨φ.f,E.im⟩) (fun _ _ e=>e) h r
  have bc:Rel ⟨φ.f,E.im⟩ H w':=by
   refine⟨?_,fun j k=>s.same.free (q.room j k),q.len,q.inj,q.top,fun j=>ei (q.loc j) s.size,q.mem,q.lp,?_,?_,q.lu⟩
   ·intro y l bv g i x j k a3 S;have j:φ y=some l:=j;by_cases B:∃d,T.get y=.cells d 0
    ·obtain⟨d,B⟩:=B;rw[F y d B]at k;cases k;obtain⟨C,_,Y⟩:=hT.cells B;obtain⟨K,J,M⟩:=ac.cell (L.le C (aO.rG C j)) B rfl S;exact⟨K,J,ap (cM.iff.1 Y _ (er S)) M⟩
    ·obtain⟨K,J,M⟩:=q.cell j k a3 S;refine⟨K,?_,M.mono ab⟩;unfold World.cell? at J⊢;rw[Q (q.loc j) (W (fun d h=>B ⟨d,h⟩) j)];exact J
   ·intro y l o j k;obtain⟨J,M⟩:=q.cv j k;refine⟨J,M.mono ab (Q (q.loc j) (W (fun d h=>?_) j))⟩;rw[F y d h]at k;cases k
   ·intro n x e;have Z:=ac.fj e;refine⟨Z.obj,Z.kind,fun y l j k=>?_⟩;rcases am n x e with h|h|⟨m,N,d,p,z,I,U⟩
    ·exact(q.fj h).off y l j k
    ·have:=q.loc j;omega
    ·have:=Z.off m N z I;rw[ag.ua,U]at this;cases this
  refine⟨v,v',H,⟨φ.f,E.im⟩,rfl,⟨bc,ab,fun p z=>absurd (p.symm.trans z) aJ,fun _ _ _=>rfl,aR _,fun p z=>Q p (fun y l d j k=>absurd k (z y l j)),s.size,s.same,fun{y l} j k=>⟨k,Q (q.loc j) (W (fun d h=>?_) j)⟩,fun n x e=>?_⟩,ap Y aw,hR,rfl⟩
  ·rw[F y d h]at k;cases k
  ·rcases am n x e with h|h|⟨m,l,d,p,z,I,U⟩
   ·exact .inl h
   ·exact .inr (.inl h)
   ·exact .inr (.inr ⟨m,l,p,I,by rw[F m d U];simp⟩)
end
end Go.aE
namespace Go.aV
def tz(n:Nat):Nat:=if h:n=0∨n%2=1 then 0 else 1+tz (n/2)
termination_by n
decreasing_by omega
variable{a:Nat}
theorem ada(h:a%2=1):tz a=0:=by rw[tz];simp[h]
theorem ac_(b:a≠0)(h:a%2=0):tz a=1+tz (a/2):=by
 rw[tz];rw[dif_neg];rintro(e|e)
 ·exact b e
 ·omega
theorem y_(b:a≠0):a=2^tz a*(a/2^tz a)∧a/2^tz a%2=1:=by
 induction a using jb with
 |ind a f=>
  by_cases h:a%2=1
  ·rw[ada h];simp[h]
  ·have e:a%2=0:=aa;obtain⟨c,d⟩:=f (a/2) aa aa;rw[ac_ b e,iy,c3,b3 (2^_) 2,←nL];refine⟨?_,d⟩;rw[cg,←c];omega
variable{g:Nat}
theorem CR{k:Nat}(d:g≠0)(h:g<2^k):tz g<k:=by
 obtain⟨b,e⟩:=y_ d;obtain⟨o,f⟩:∃o,o=g/2^tz g:=⟨_,rfl⟩;rw[←f]at b e;have c:2^tz g*1≤2^tz g*o:=fc _ aa;rw[←b,dQ]at c;exact(Nat.pow_lt_pow_iff_right (a:=2) aj).1 (eH c h)
theorem aaz(a b:Nat):a&&&b=2*(a/2&&&b/2)+(a%2&&&b%2):=by
 have d:=Nat.and_div_two (a:=a) (b:=b);have c:=Nat.and_mod_two_pow (a:=a) (b:=b) (n:=1);simp only[Nat.pow_one]at c;omega
theorem aaA:∀(w m:Nat),m<2^w→m&&&(2^w-1-m)=0
 |0,m,h=>by
  have:m=0:=by simp at h;exact h
  rw[this];simp
 |w+1,m,h=>by
  have b:2^(w+1)=2*2^w:=by rw[c3,b3]
  have c:0<2^w:=e8 aj;rw[aaz];have a:(2^(w+1)-1-m)/2=2^w-1-m/2:=aa;rw[a,aaA w (m/2) aa];rcases Nat.mod_two_eq_zero_or_one m with h0|h0
  ·rw[h0];simp
  ·have:(2^(w+1)-1-m)%2=0:=aa;rw[this];simp
theorem aaB:∀(w n:Nat),n≠0→n<2^w→n&&&(2^w-n)=2^tz n
 |0,n,b,h=>by simp at h;exact absurd h b
 |w+1,n,b,h=>by
  have d:2^(w+1)=2*2^w:=by rw[c3,b3]
  rw[aaz];rcases Nat.mod_two_eq_zero_or_one n with he|he
  ·have a:(2^(w+1)-n)/2=2^w-n/2:=aa;rw[a,aaB w (n/2) aa aa,he,ac_ b he,iy 1,c3];simp;omega
  ·have a:(2^(w+1)-n)/2=2^w-1-n/2:=aa;have c:(2^(w+1)-n)%2=1:=aa;rw[a,aaA w (n/2) aa,he,c,ada he];simp
theorem JI(k:Nat)(c:a%2=1):cx a (2^k*g)=cx a g:=by
 have b:Nat.Coprime 2 a:=by
  have:=Nat.gcd_rec 2 a;rw[c]at this;rw[Nat.Coprime,this];decide
 exact Nat.Coprime.gcd_mul_left_cancel_right g (b.pow_left k)
theorem aoe(k:Nat)(b:a%2=1):cx (2^k*g) a=cx g a:=by
 rw[oF,JI k b,oF]
theorem aik{y:Nat}(r:g≠0)(F:y≠0):cx g y=2^tz (g|||y)*cx (g/2^tz g) y:=by
 have t:g|||y≠0:=fun e=>r (Nat.or_eq_zero_iff.1 e).1
 obtain⟨m,i⟩:=y_ t;obtain⟨k,v⟩:∃k,k=tz (g|||y):=⟨_,rfl⟩;rw[←v]at m i⊢;have w:(g|||y)%2^k=0:=by rw[m];exact Nat.mul_mod_right _ _
 rw[Nat.or_mod_two_pow,Nat.or_eq_zero_iff]at w;have c:g=2^k*(g/2^k):=by have:=iN g (2^k);omega
 have l:y=2^k*(y/2^k):=by have:=iN y (2^k);omega
 obtain⟨X,p⟩:∃X,X=g/2^k:=⟨_,rfl⟩;obtain⟨Y,q⟩:∃Y,Y=y/2^k:=⟨_,rfl⟩;rw[Nat.or_div_two_pow,←p,←q]at i;rw[←p]at c;rw[←q]at l;obtain⟨f,s⟩:=y_ r;obtain⟨o,x⟩:∃o,o=g/2^tz g:=⟨_,rfl⟩;rw[←x]at f s⊢;have u:cx g y=2^k*cx X Y:=by
  rw[c,l,Nat.gcd_mul_left]
 have A:cx o y=cx o Y:=by rw[l,JI k s]
 rw[u,A];congr 1;have C:k≤tz g:=by
  refine ja fun D=>?_
  have e:2^k=2^tz g*(2*2^(k-tz g-1)):=by rw[←Nat.pow_succ',←fX];congr 1;omega
  rw[e]at c;rw[cg,cg]at c;have:=Nat.eq_of_mul_eq_mul_left (e8 aj) (f.symm.trans c);omega
 have j:X=2^(tz g-k)*o:=by
  have e:2^tz g=2^k*2^(tz g-k):=by rw[←fX];congr 1;omega
  rw[e,cg]at f;exact Nat.eq_of_mul_eq_mul_left (e8 (n:=k) (aj:0<2)) (c.symm.trans f)
 have z:X%2=1∨Y%2=1:=by
  have d:=Nat.or_mod_two_pow (a:=X) (b:=Y) (n:=1);simp only[Nat.pow_one]at d;rw[i]at d;rcases Nat.mod_two_eq_zero_or_one X with h4|h4
  ·rcases Nat.mod_two_eq_zero_or_one Y with h5|h5
   ·rw[h4,h5]at d;simp at d
   ·exact .inr h5
  ·exact .inl h4
 rcases z with h|h
 ·have B:tz g-k=0:=by
   refine Nat.eq_zero_of_not_pos fun E=>?_
   have e:2^(tz g-k)=2*2^(tz g-k-1):=by rw[←Nat.pow_succ'];congr 1;omega
   rw[j,e,cg]at h;omega
  rw[j,B,mF,fM]
 ·rw[j,aoe _ h]
end Go.aV
namespace Go.Proofs.YtddhncjmaahodaaGreatDoor
open Go.aE Go.aV
def mZ:List Nat:=[0,1,56,2,57,49,28,3,61,58,42,50,38,29,17,4,62,47,59,36,45,43,51,22,53,39,33,30,24,18,12,5,63,55,48,27,60,41,37,16,46,35,44,21,52,32,23,11,54,26,40,15,34,20,31,10,25,14,19,9,13,8,7,6]
def qn:List Nat:=[0,1,28,2,29,14,24,3,30,22,20,15,25,17,4,8,31,27,13,23,21,19,16,7,26,12,18,6,11,5,10,9]
def mj:List Nat:=[1,10,100,1000,10000,100000,1000000,10000000,100000000,1000000000,10000000000,100000000000,1000000000000,10000000000000,100000000000000,1000000000000000,10000000000000000,100000000000000000,1000000000000000000,10000000000000000000]
def pA(l:List Nat):List V:=l.map fun d:Nat=>V.int .u8 (d:Int)
def uS(l:List Nat):List V:=l.map fun d:Nat=>V.int .u64 (d:Int)
theorem Zq(l:List Nat):cM (pA l):=cM.iff.2 fun v h=>by
 simp only[pA,nc]at h;obtain⟨d,_,rfl⟩:=h;exact .int _ _
theorem ahH(l:List Nat):cM (uS l):=cM.iff.2 fun v h=>by
 simp only[uS,nc]at h;obtain⟨d,_,rfl⟩:=h;exact .int _ _
def dG:ag:=(((ag.zero 5).set 0 (.cells (uS mj) 0)).set 1 (.cells (pA mZ) 0)).set 4 (.cells (pA qn) 0)
@[go_sem]theorem Jz:dG.next=5:=rfl
theorem lq(y:Nat):dG.get y=if y=4 then .cells (pA qn) 0 else if y=1 then .cells (pA mZ) 0 else if y=0 then .cells (uS mj) 0 else .none:=by
 unfold dG;simp only[ag.a_,ag.gf,eq_comm]
theorem yX:xo 5 dG:=by
 refine⟨rfl,fun y a=>?_,fun y=>?_⟩
 ·rw[lq,au aa,au aa,au aa]
 ·rw[lq];split
  ·exact .inr ⟨_,rfl,Zq _⟩
  ·split
   ·exact .inr ⟨_,rfl,Zq _⟩
   ·split
    ·exact .inr ⟨_,rfl,ahH _⟩
    ·exact .inl rfl
def GT(H:ag):Prop:=Has H dG
variable{c:ag}
theorem GT.mZ(h:GT c):c.get 1=.cells (pA mZ) 0:=h 1 _ (by rw[lq];rfl)
theorem GT.mj(h:GT c):c.get 0=.cells (uS mj) 0:=h 0 _ (by rw[lq];rfl)
theorem GT.qn(h:GT c):c.get 4=.cells (pA qn) 0:=h 4 _ (by rw[lq];rfl)
variable{J:ag}
theorem GT.keep(h:GT c)(b:∀y,y<5→J.get y=c.get y):GT J:=fun y a e=>by
 rw[b y (yX.cells e).1];exact h y a e
theorem gv:GT dG:=fun _ _ e=>e
variable{a:Nat}
theorem GT.set(h:GT c)(b:5≤a)(o:eg):GT (c.set a o):=h.keep fun y d=>by rw[ag.a_,au aa]
theorem GT.push(h:GT c)(a:5≤c.next)(o:eg):GT (c.push o):=h.keep fun y b=>by rw[ag.bE,au aa]
def ff(f:Nat)(b:List V)(r:V):Prop:=∀H,GT H→dN f b H fun v a=>v=r∧a=H
variable{b:List V}{s:V}
theorem fK(e:cM b)(h:dN a b dG fun f c=>GT c∧∃v,cr c (dG.lW c.next) f v∧bZ v∧v=s):ff a b s:=
 fun H d=>aoV (R:=fun v=>v=s) yX e h H d
variable{j:Option Nat}{f:Fr→ag→Prop}{o:Fr}{A:FuncId}
theorem cy(h:ff A b s)(e:GT c)(g:f (put o j s) c):ow eW 5 j f o c (some (.fn A,b)):=
 (h c e).mono fun v i ⟨a,d⟩=>by rw[a,d];exact g
theorem cX{v:V}(b:GT c)(h:v=s)(a:bZ s):GT c∧∃u,cr c (dG.lW c.next) v u∧bZ u∧u=s:=⟨b,v,.same v,by rw[h];exact a,h⟩
variable{g:Nat}
theorem ad2(b:a<18446744073709551616)(c:g<18446744073709551616):gM (gZ .and) [az (a:Int),az (g:Int)]=some (.val (az ((a&&&g:Nat):Int))):=by
 show some (bx.val (az (mH (ob .u64) (dK .u64) (Nat.land (gA (dK .u64) (a:Int)) (gA (dK .u64) (g:Int))))))=_;rw[sN b,sN c,xB];rfl
variable{z:Nat}{I:Nat}{r:Int}{p:IntKind}
theorem Z8(h:0≤r∧r<a):dY (some a) g [.ptr z I,.int p r]=some (.val (.ptr z (I+r.toNat*g))):=by
 show av (fU (.int p r)) _=_;rw[k8 p h.1];show bq (b8 (r.toNat+1) a) _=_;rw[jf aa];rfl
theorem aqV:∀k,k<64→mZ[2^k*285870213051353865%18446744073709551616/288230376151711744]? =some k∧2^k*285870213051353865%18446744073709551616/288230376151711744<64:=aj
theorem KI(n:Nat)(a:n≠0)(h:n<18446744073709551616):ff 313 [az (n:Int)] (ai (tz n:Int)):=by
 refine fK (.cons (.int _ _) .nil) (bg alN ?_);have i:=CR (k:=64) a h;have j:=aaB 64 n a h;obtain⟨c,q⟩:=aqV (tz n) i;have r:¬((n:Nat):Int)=0:=aa;have l:aG .u64 (-(n:Int))=((18446744073709551616-n:Nat):Int):=by rw[gE];omega
 have d:gM (gZ .and) [az (n:Int),az ((18446744073709551616-n:Nat):Int)]=some (.val (az ((2^tz n:Nat):Int))):=by
  rw[ad2 h aa];rw[show(18446744073709551616:Nat)-n=2^64-n from rfl,j]
 have b:aG .u64 (((2^tz n:Nat):Int)*285870213051353865)=((2^tz n*285870213051353865%18446744073709551616:Nat):Int):=by
  rw[gE,Int.natCast_emod,e7];rfl
 obtain⟨p,m⟩:∃p,p=2^tz n*285870213051353865%18446744073709551616:=⟨_,rfl⟩;rw[←m]at c q b;have o:ql (p:Int) (dO 58 (gq .u64))=((p/288230376151711744:Nat):Int):=rfl;have g:dY (some 64) 1 [.ptr 1 0,az ((p/288230376151711744:Nat):Int)]=some (.val (.ptr 1 (p/288230376151711744))):=by
  rw[Z8 ⟨aa,aa⟩,bN,dQ,fB]
 have k:eu (pA mZ) (p/288230376151711744)=some (.int .u8 ((tz n:Nat):Int)):=by
  rw[iW,pA,qE,c];rfl
 have f:dG.get 1=.cells (pA mZ) 0:=gv.mZ;have e:aG .i64 ((tz n:Nat):Int)=(tz n:Int):=aQ _ aa;simp(disch:=assumption)only[go_sem,Uk,Um,Ul,df,l,d,b,o,g,f,k,e];exact cX gv rfl (.int _ _)
theorem JM{y:Nat}(h:a<18446744073709551616∧y<18446744073709551616):gM (gZ .or) [az (a:Int),az (y:Int)]=some (.val (az ((a|||y:Nat):Int))):=by
 show some (bx.val (az (mH (ob .u64) (dK .u64) (Nat.lor (gA (dK .u64) (a:Int)) (gA (dK .u64) (y:Int))))))=_;rw[sN h.1,sN h.2,xB];rfl
theorem acy(n k:Nat)(a:k<64):gM (gZ .shr) [az (n:Int),ai (k:Int)]=some (.val (az ((n/2^k:Nat):Int))):=by
 rw[aek,lI,kf (show k≤gq .u64 from by show k≤64;omega)]
def adz(d:Nat)(s:Nat)(k:Nat)(F:Fr)(H:ag):Prop:=∃x y:Nat,k=x+y∧rd 0 F=az (x:Int)∧rd 1 F=az (y:Int)∧rd 5 F=ai (s:Int)∧x%2=1∧x<18446744073709551616∧y<18446744073709551616∧cx x y=d∧GT H
theorem aih(x y:Nat)(g:x<18446744073709551616)(t:y<18446744073709551616):ff 254 [az (x:Int),az (y:Int)] (az (cx x y:Int)):=by
 refine fK (.cons (.int _ _) (.cons (.int _ _) .nil)) (bg alr ?_);by_cases f:x=0
 ·subst f;have d:gM (gZ .or) [az ((0:Nat):Int),az (y:Int)]=some (.val (az (y:Int))):=by rw[JM ⟨aj,t⟩];simp
  simp only[go_sem,Al,Am,jn,decide_true]at d⊢;simp only[go_sem,d];rw[Nat.gcd_zero_left];exact cX gv rfl (.int _ _)
 have U:¬((x:Nat):Int)=0:=aa;by_cases D:y=0
 ·subst D;have d:gM (gZ .or) [az (x:Int),az ((0:Nat):Int)]=some (.val (az (x:Int))):=by rw[JM ⟨g,aj⟩];simp
  simp(disch:=assumption)only[go_sem,Al,Am,df,jn,decide_true]at d⊢;simp only[go_sem,d];rw[Nat.gcd_zero_right];exact cX gv rfl (.int _ _)
 have V:¬((y:Nat):Int)=0:=aa;have C:x|||y≠0:=fun e=>f (Nat.or_eq_zero_iff.1 e).1
 have B:x|||y<18446744073709551616:=Nat.or_lt_two_pow (n:=64) g t
 have r:=aik f D;have N:=CR (k:=64) C B;have P:=CR (k:=64) f g;obtain⟨W,E⟩:=y_ f;simp(disch:=first|assumption|omega)only[Al,Am,Sp,go_sem,↓reduceIte,kz,df,JM]
 refine cy (KI _ C B) gv ?_;simp only[go_sem,So];refine cy (KI _ f g) gv ?_;simp only[go_sem,Sn,acy x _ P];have z:x/2^tz x<18446744073709551616:=eH (g7 _ _) g;obtain⟨o,d⟩:∃o,o=x/2^tz x:=⟨_,rfl⟩;rw[←d]at r z E⊢;obtain⟨s,M⟩:∃s,s=tz (x|||y):=⟨_,rfl⟩;rw[←M]at r N⊢;refine bW (adz (cx o y) s) (o+y) ⟨o,y,rfl,?_,?_,?_,E,z,t,rfl,gv⟩ ?_
 iterate 3 simp only[go_sem]
 rintro k Q R ⟨a,b,rfl,h,u,m,v,I,w,p,j⟩;unfold Sl;by_cases i:b=0
 ·subst i;rw[Nat.gcd_zero_right]at p;have O:gM (gZ .shl) [az (a:Int),ai (s:Int)]=some (.val (az ((cx x y:Nat):Int))):=by
   rw[aej,kf (show s≤gq .u64 from by show s≤64;omega),←e7,p,b3,←r,cj];have:cx x y≤x:=Nat.gcd_le_left _ aa;omega
  simp only[go_sem,Sm,h,u,m,jn,decide_true,O];exact cX j rfl (.int _ _)
 ·have S:¬((b:Nat):Int)=0:=aa;have J:=CR (k:=64) i w;obtain⟨F,G⟩:=y_ i;have L:b/2^tz b≤b:=g7 _ _;simp(disch:=assumption)only[go_sem,Sk,u,df];refine cy (KI _ i w) j ?_;obtain⟨c,K⟩:∃c,c=b/2^tz b:=⟨_,rfl⟩;have q:=acy b _ J;rw[←K]at F G L q;have A:cx a c=cx o y:=by rw[←p,F,JI _ v]
  by_cases T:c<a
  ·have H:((c:Nat):Int)<((a:Nat):Int):=aa;have l:(a:Int)-(c:Int)=((a-c:Nat):Int):=aa;simp(disch:=first|assumption|omega)only[F5,F4,go_sem,↓reduceIte,kz,h,q,dt,l,cj]
   refine⟨c+(a-c),aa,c,a-c,rfl,?_,?_,?_,G,aa,aa,?_,j⟩
   iterate 3 simp only[go_sem,m]
   ·rw[Nat.gcd_sub_self_right aa,oF];exact A
  ·have H:¬((c:Nat):Int)<((a:Nat):Int):=aa;have l:(c:Int)-(a:Int)=((c-a:Nat):Int):=aa;simp(disch:=first|assumption|omega)only[F5,F4,go_sem,↓reduceIte,kz,h,q,df,l,cj]
   refine⟨a+(c-a),aa,a,c-a,rfl,?_,?_,?_,v,I,aa,?_,j⟩
   iterate 3 simp only[go_sem,h,m]
   ·rw[Nat.gcd_sub_self_right aa];exact A
def eX(a b:Int):Int:=if a<b then-1 else if b<a then 1 else 0
theorem aa3(a:Int):bA 288 [ai a] aq:=by
 refine cT (.cons (.int _ _) .nil) (.bool _) (bg aly ?_);simp only[go_sem,SN,SO,decide_true]
theorem aa4(a:Int):bA 355 [az a] aq:=by
 refine cT (.cons (.int _ _) .nil) (.bool _) (bg alS ?_);simp only[go_sem,U4,U5,decide_true]
theorem A8(a b:Int):bA 298 [ai a,ai b] (ai (eX a b)):=by
 refine cT (.cons (.int _ _) (.cons (.int _ _) .nil)) (.int _ _) (bg alD ?_);simp only[go_sem,Tf,Ti];refine use (aa3 a) ?_;simp only[go_sem,Th];refine use (aa3 b) ?_;by_cases c:a<b
 ·simp(disch:=assumption)only[go_sem,At,As,Ar,dt];rw[eX,ay c]
 ·by_cases d:b<a
  ·simp(disch:=assumption)only[go_sem,At,As,Ar,Gi,dt,df];rw[eX,au c,ay d]
  ·simp(disch:=assumption)only[go_sem,At,As,Ar,Gi,Tg,df];rw[eX,au c,au d]
theorem Yx(a b:Int):bA 299 [az a,az b] (ai (eX a b)):=by
 refine cT (.cons (.int _ _) (.cons (.int _ _) .nil)) (.int _ _) (bg alE ?_);simp only[go_sem,Tj,Tm];refine use (aa4 a) ?_;simp only[go_sem,Tl];refine use (aa4 b) ?_;by_cases c:a<b
 ·simp(disch:=assumption)only[go_sem,Aw,Av,Au,dt];rw[eX,ay c]
 ·by_cases d:b<a
  ·simp(disch:=assumption)only[go_sem,Aw,Av,Au,Gj,dt,df];rw[eX,au c,ay d]
  ·simp(disch:=assumption)only[go_sem,Aw,Av,Au,Gj,Tk,df];rw[eX,au c,au d]
theorem agB(a w:Nat)(b:a<18446744073709551616)(g:0<w∧w<18446744073709551616):bA 314 [az 0,az (a:Int),az (w:Int)] (.aK [az ((a/w:Nat):Int),az ((a%w:Nat):Int)]):=by
 refine cT (.cons (.int _ _) (.cons (.int _ _) (.cons (.int _ _) .nil))) (.aK (.cons (.int _ _) (.cons (.int _ _) .nil))) (bg aao ?_);have e:¬((w:Nat):Int)=0:=aa;have f:(0:Int)<((w:Nat):Int):=aa;have c:a/w<18446744073709551616:=eH (g7 _ _) b;have d:aG .u64 ((a/w:Nat):Int)=((a/w:Nat):Int):=cj _ ⟨s7 _,qB.2 c⟩;simp(disch:=assumption)only[go_sem,GA,GH,GG,GF,df,dt,decide_true,iC,k_,qp,wU,d]
theorem Bu(w:Nat)(b:w<18446744073709551616):bA 253 [az (w:Int)] (bz (ax w)):=by
 refine e3 (.cons (.int _ _) .nil) (bg alq ?_);by_cases h:w=0
 ·have a:((w:Nat):Int)=0:=aa;simp(disch:=assumption)only[go_sem,F2,F3,dt];rw[h,js];exact⟨_,.fQ,.row 0 .nil,rfl⟩
 ·have a:¬((w:Nat):Int)=0:=aa;simp(disch:=assumption)only[go_sem,F2,F3,Sj,df];rw[IC h b];refine⟨bz [w],.row (m:=1) (cs:=aT [w]) ?_ aj jJ (dy.refl _),dA _,rfl⟩;rw[gj (cs:=aT [w]) (by simp only[go_sem];rfl)];rfl
def cm(q:Rat):List V:=[.bool (decide (q.num<0)),bz (ax q.num.natAbs),aq,bz (ax (dd q))]
def cN(q:Rat):V:=.agg (cm q)
theorem Zl(q:Rat):cM (cm q):=.cons (.bool _) (.cons (dA _) (.cons (.bool _) (.cons (dA _) .nil)))
theorem h_(q:Rat):bZ (cN q):=.agg (Zl q)
def EI:ah:=aB [bI 2 0,aP 3 aq]
def vA:ah:=.seq (.block 0 (an [aA 14 1 1,aC 15 14,aY 16 15,bH 17 .gtr 16 1,ao 13 17] (bl 13 (aB [bI 2 0,aP 3 aq]) (an [aA 19 0 1,aC 20 19,af 21 20,bG 21 true 22 4,aN 21 true 23 (bi .leq (rd 22) (kc (az 9223372036854775808))),dM 24 21 23,ao 18 24] (bl 18 (aB [af 25 4,ex 26 (neg (rd 25)),c7 27 .i64 26,ao 2 27,aP 3 cC]) (an [aA 29 0 1,aC 30 29,fL 31 30,af 32 31,bG 32 true 33 4,aN 32 true 34 (bi .leq (rd 33) (kc (az 9223372036854775807))),dM 35 32 34,ao 28 35] (bl 28 (aB [af 36 4,c7 37 .i64 36,ao 2 37,aP 3 cC]) .skip))))))) EI
def vB:ah:=an [aA 9 1 1,aC 10 9,ex 11 (dX none 1 (rd 10) (kc (ai 0))),aC 12 11,ao 4 12] vA
def tC:ah:=bm [aA 5 1 1,aC 6 5,aY 7 6,bH 8 .eql 7 0] 8 (aB [bI 2 0,aP 3 cC]) vB
def tB:ah:=an [b7 1 0,bI 2 0,aP 3 aq] tC
theorem akJ:aZ Tryz.f166 166 tB [.tmp 2,.tmp 3]:=bh
def O_:ah:=aB [aL 3 2 1,ex 4 (bF 169 [(rd 3),(kc .ak)]),ex 5 (tL (rd 4)),ao 2 5]
def O9:ah:=an [b7 1 0,aP 2 (.str [])] O_
theorem aae:aZ Tryz.f168 168 O9 [.tmp 2]:=bh
def EK:ah:=aB [af 10 1,aA 11 1 2,aC 12 11,bf 13 232 10 12,ao 4 13]
def EL:ah:=bm [aA 5 0 2,aC 6 5] 6 (.aH [af 7 1,ex 8 (cW 1 [(0,1)] [(.int .u8 0)] [(kc (.int .u8 45))]),eo 9 1 1 7 8,ao 1 9]) EK
def EJ:ah:=an [b7 2 0,aP 4 .ak] EL
theorem aaf:aZ Tryz.f169 169 EJ [.tmp 4]:=bh
def Pp:ah:=aB [aA 23 1 2,aC 24 23,aA 25 1 3,aC 26 25,bf 27 235 24 26,ao 4 27]
def xM:ah:=.seq (.block 0 (an [aA 6 0 2,aC 7 6,af 8 7,c6 8 true 9 0 3,c9 8 true 10 9,dM 11 8 10,ao 5 11] (bl 5 (aB [aA 12 1 3,aC 13 12,aA 14 1 2,aC 15 14,bf 16 235 13 15,ao 4 16]) (an [aA 18 0 2,aC 19 18,ao 17 19] (bl 17 (aB [ex 4 (fq (kc (ai (-1))))]) (an [aA 21 0 3,aC 22 21,ao 20 22] (bl 20 (aB [bI 4 1]) .skip))))))) Pp
def xL:ah:=an [b7 2 0,b7 3 1,bI 4 0] xM
theorem akN:aZ Tryz.f172 172 xL [.tmp 4]:=bh
def Pr:ah:=aB [aA 5 0 2,aC 6 5,aA 7 0 3,aC 8 7,ex 9 (be true .bool (rd 6) (rd 8)),aA 10 1 2,aC 11 10,aA 12 1 3,aC 13 12,bf 14 237 11 13,ey 6 5,ey 8 7,bf 15 236 9 14,aF 2 4 15]
def Pq:ah:=an [b7 2 0,b7 3 1,ex 4 (alloc [aq,.ak])] Pr
theorem akO:aZ Tryz.f173 173 Pq [.cell 4 true 2]:=bh
def Px:ah:=aB [aA 32 0 3,aC 33 32,aA 34 1 3,aC 35 34,aA 36 1 2,aC 37 36,bf 38 240 35 37,ey 33 32,bf 39 236 33 38,aF 2 4 39]
def Py:ah:=bm [aA 18 1 2,aC 19 18,aA 20 1 3,aC 21 20,bf 22 235 19 21,bH 23 .geq 22 0] 23 (aB [aA 24 0 2,aC 25 24,aA 26 1 2,aC 27 26,aA 28 1 3,aC 29 28,bf 30 240 27 29,ey 25 24,bf 31 236 25 30,aF 2 4 31]) Px
def EY:ah:=bm [aA 5 0 2,aC 6 5,aA 7 0 3,aC 8 7,ex 9 (be false .bool (rd 6) (rd 8))] 9 (aB [aA 10 0 2,aC 11 10,aA 12 1 2,aC 13 12,aA 14 1 3,aC 15 14,bf 16 239 13 15,ey 11 10,bf 17 236 11 16,aF 2 4 17]) Py
def EX:ah:=an [b7 2 0,b7 3 1,ex 4 (alloc [aq,.ak])] EY
theorem akS:aZ Tryz.f177 177 EX [.cell 4 true 2]:=bh
def Pz:ah:=aB [aL 16 2 5,aF 2 4 16]
def PA:ah:=an [aL 11 2 2,aL 12 2 3,bf 13 241 11 12,af 10 13,bn 14 0 10,bn 15 1 10,ex 5 (alloc [aq,.ak]),ex 6 (alloc [aq,.ak]),aF 2 5 14,aF 2 6 15] Pz
def E0:ah:=bm [aL 7 2 3,bk 8 124 7] 8 (aB [aL 9 2 2,aF 2 4 9]) PA
def EZ:ah:=an [b7 2 0,b7 3 1,ex 4 (alloc [aq,.ak])] E0
theorem akT:aZ Tryz.f178 178 EZ [.cell 4 true 2]:=bh
def Fl:ah:=aB [af 19 2,af 20 0,c7 21 .u8 20,ex 22 (g9 (kc (.str [0,1,2,2,3,3,3,3,4,4,4,4,4,4,4,4,5,5,5,5,5,5,5,5,5,5,5,5,5,5,5,5,6,6,6,6,6,6,6,6,6,6,6,6,6,6,6,6,6,6,6,6,6,6,6,6,6,6,6,6,6,6,6,6,7,7,7,7,7,7,7,7,7,7,7,7,7,7,7,7,7,7,7,7,7,7,7,7,7,7,7,7,7,7,7,7,7,7,7,7,7,7,7,7,7,7,7,7,7,7,7,7,7,7,7,7,7,7,7,7,7,7,7,7,7,7,7,7,8,8,8,8,8,8,8,8,8,8,8,8,8,8,8,8,8,8,8,8,8,8,8,8,8,8,8,8,8,8,8,8,8,8,8,8,8,8,8,8,8,8,8,8,8,8,8,8,8,8,8,8,8,8,8,8,8,8,8,8,8,8,8,8,8,8,8,8,8,8,8,8,8,8,8,8,8,8,8,8,8,8,8,8,8,8,8,8,8,8,8,8,8,8,8,8,8,8,8,8,8,8,8,8,8,8,8,8,8,8,8,8,8,8,8,8,8,8,8,8,8,8,8,8,8,8,8,8])) (rd 21)),c7 23 .i64 22,cU 24 19 23,ao 2 24]
def zW:ah:=bm [af 13 0,bR 14 .geq 13 .u64 256] 14 (an [af 15 0,bR 16 .shr 15 .u64 8,ao 0 16] (.aH [af 17 2,b9 18 17 8,ao 2 18])) Fl
def zX:ah:=bm [af 7 0,bR 8 .geq 7 .u64 65536] 8 (an [af 9 0,bR 10 .shr 9 .u64 16,ao 0 10] (.aH [af 11 2,b9 12 11 16,ao 2 12])) zW
def Fm:ah:=bm [af 3 0,bR 4 .geq 3 .u64 4294967296] 4 (an [af 5 0,bR 6 .shr 5 .u64 32,ao 0 6] (.aH [bI 2 32])) zX
def Fk:ah:=an [bI 2 0] Fm
theorem ak5:aZ Tryz.f218 218 Fk [.tmp 2]:=bh
def aeP:ah:=.aH [af 45 5,af 46 6,af 47 6,bf 48 237 46 47,ex 49 (cW 1 [(0,1)] [.ak] [(rd 48)]),eo 50 1 24 45 49,ao 5 50]
def aeQ:ah:=.block 1 (an [af 39 5,af 40 5,aY 41 40,cL 42 41 1,aX 43 1 39 42,aC 44 43,ao 6 44] aeP)
def Rl:ah:=.seq (an [af 23 1,aY 24 23,bH 25 .gtr 24 30,af 26 25,bG 26 true 27 5,bG 26 true 28 5,aN 26 true 29 (fF (rd 28)),ef 26 true 30 .sub 29 1,aN 26 true 31 (dX none 1 (rd 27) (rd 30)),c9 26 true 32 31,aN 26 true 33 (fF (rd 32)),aN 26 true 34 (bi .mul (kc (ai 2)) (rd 33)),bG 26 true 35 1,aN 26 true 36 (fF (rd 35)),aN 26 true 37 (bi .leq (rd 34) (rd 36)),dM 38 26 37] (bl 38 .skip (.exit 0))) aeQ
def Rm:ah:=aB [af 51 0,af 52 1,af 53 5,ex 54 (bF 297 [(rd 51),(rd 52),(kc (ai 0)),(rd 53)]),ao 4 54]
def Rn:ah:=.seq (.block 0 (.loop Rl)) Rm
def Ro:ah:=an [ex 21 (cW 1 [(0,1)] [(az 0)] [(kc (az 10000000000000000000))]),ex 22 (cW 1 [(0,1)] [.ak] [(rd 21)]),ao 5 22] Rn
def FH:ah:=bm [af 13 1,aY 14 13,bH 15 .eql 14 1] 15 (aB [af 16 0,af 17 1,ex 18 (dX none 1 (rd 17) (kc (ai 0))),aC 19 18,ex 20 (bF 296 [(rd 16),(rd 19),(kc (ai 10))]),ao 4 20]) Ro
def z4:ah:=bm [af 7 1,aY 8 7,bH 9 .eql 8 0] 9 (aB [af 10 0,ex 11 (cW 1 [(0,1)] [(.int .u8 0)] [(kc (.int .u8 48))]),eo 12 1 1 10 11,ao 4 12]) FH
def z3:ah:=an [aP 4 .ak] z4
theorem aaj:aZ Tryz.f232 232 z3 [.tmp 4]:=bh
def Rr:ah:=aB [bI 2 1]
def z6:ah:=.seq (.block 0 (an [aA 4 1 1,aC 5 4,aY 6 5,bH 7 .eql 6 0,ao 3 7] (bl 3 (aB [bI 2 0]) (an [aA 9 0 1,aC 10 9,ao 8 10] (bl 8 (aB [ex 2 (fq (kc (ai (-1))))]) .skip))))) Rr
def z5:ah:=an [b7 1 0,bI 2 0] z6
theorem alc:aZ Tryz.f234 234 z5 [.tmp 2]:=bh
def Rw:ah:=.aH [b9 76 55 1,af 55 76]
def Rx:ah:=.seq (.block 2 (an [af 57 55,aX 58 1 53 55,aC 59 58,ao 7 57,ao 8 59] (.aH [af 60 6,af 61 7,af 62 0,aY 63 62,cU 64 61 63,af 65 6,af 66 7,af 67 7,af 68 0,aY 69 68,cU 70 67 69,ex 71 (jk 1 true true false [(rd 65),(rd 66),(rd 70)]),af 72 0,af 73 8,kG 74 300 71 72 73,aX 75 1 60 64,aF 1 75 74]))) Rw
def FK:ah:=.seq (bl 56 .skip (.exit 1)) Rx
def FL:ah:=an [cw 56 55 54] FK
def aeW:ah:=aB [af 139 16,bk 140 252 139,ao 4 140]
def aeX:ah:=an [af 134 16,af 135 5,ex 136 (jk 1 true false false [(rd 134),(rd 135)]),af 137 15,bf 138 302 136 137] aeW
def aeY:ah:=an [af 128 16,af 129 5,ex 130 (bi .mul (kc (ai 2)) (rd 129)),ex 131 (jk 1 true false false [(rd 128),(rd 130)]),af 132 14,ex 133 (r3 1 (rd 131) (rd 132))] aeX
def aeZ:ah:=an [af 125 16,af 126 13,ex 127 (r3 1 (rd 125) (rd 126))] aeY
def ae0:ah:=an [af 119 0,aY 120 119,af 121 1,aY 122 121,cU 123 120 122,ex 124 (ms 8 [(az 0)] (rd 123) (rd 123)),ao 16 124] aeZ
def ae1:ah:=an [af 114 15,af 115 13,bf 116 240 114 115,af 117 14,bf 118 240 116 117,ao 15 118] ae0
def aeR:ah:=an [af 107 9,af 108 10,bf 109 239 107 108,af 110 11,af 111 12,bf 112 239 110 111,bf 113 237 109 112,ao 15 113] ae1
def aeS:ah:=an [af 104 10,af 105 12,bf 106 237 104 105,ao 14 106] aeR
def aeT:ah:=an [af 101 9,af 102 11,bf 103 237 101 102,ao 13 103] aeS
def aeU:ah:=an [af 94 1,af 95 5,ex 96 (jk 1 false true false [(rd 94),(rd 95)]),af 98 1,af 99 5,ex 100 (jk 1 true false false [(rd 98),(rd 99)]),bk 97 252 96,ao 11 97,ao 12 100] aeT
def aeV:ah:=an [af 87 0,af 88 5,ex 89 (jk 1 false true false [(rd 87),(rd 88)]),af 91 0,af 92 5,ex 93 (jk 1 true false false [(rd 91),(rd 92)]),bk 90 252 89,ao 9 90,ao 10 93] aeU
def xP:ah:=.seq (.block 0 (an [af 29 1,aY 30 29,bH 31 .eql 30 0,ao 28 31] (bl 28 (aB [aP 4 .ak]) (an [af 33 1,aY 34 33,bH 35 .eql 34 1,af 36 35,bG 36 true 37 1,aN 36 true 38 (dX none 1 (rd 37) (kc (ai 0))),c9 36 true 39 38,aN 36 true 40 (bi .eql (rd 39) (kc (az 1))),dM 41 36 40,ao 32 41] (bl 32 (aB [af 42 0,ao 4 42]) (an [af 44 1,aY 45 44,bH 46 .lss 45 40,ao 43 46] (bl 43 (an [af 47 0,aY 48 47,af 49 1,aY 50 49,cU 51 48 50,ex 52 (ms 8 [(az 0)] (rd 51) (rd 51)),ao 6 52] (.seq (an [af 53 1,aY 54 53,eL 55 (ai 0)] (.block 1 (.loop FL))) (aB [af 77 6,bk 78 252 77,ao 4 78]))) (an [af 80 1,aY 81 80,af 82 5,bD 83 .leq 81 82,ao 79 83] (bl 79 (aB [af 84 0,af 85 1,bf 86 301 84 85,ao 4 86]) .skip))))))))) aeV
def vD:ah:=an [af 24 0,aY 25 24,b9 26 25 1,bH 27 .quo 26 2,ao 5 27] xP
def FJ:ah:=bm [af 17 0,aY 18 17,af 19 1,aY 20 19,cw 21 18 20] 21 (.aH [af 22 1,af 23 0,ao 0 22,ao 1 23]) vD
def FI:ah:=an [aP 4 .ak] FJ
theorem alf:aZ Tryz.f237 237 FI [.tmp 4]:=bh
def Ry:ah:=aB [af 10 0,c7 11 .u64 10,bk 12 253 11,ex 13 (cD [(1,1)] [aq,.ak] [(rd 12)]),aF 2 2 13]
def FN:ah:=bm [af 3 0,bH 4 .lss 3 0] 4 (aB [af 5 0,c7 6 .u64 5,ex 7 (neg (rd 6)),bk 8 253 7,ex 9 (cD [(0,1),(1,1)] [aq,.ak] [(kc cC),(rd 8)]),aF 2 2 9]) Ry
def FM:ah:=an [ex 2 (alloc [aq,.ak])] FN
theorem alg:aZ Tryz.f238 238 FM [.cell 2 true 2]:=bh
def Rz:ah:=aB [af 27 5,bk 28 252 27,ao 4 28]
def RA:ah:=an [af 24 5,af 25 1,bf 26 302 24 25] Rz
def RB:ah:=an [af 21 5,af 22 0,ex 23 (r3 1 (rd 21) (rd 22))] RA
def RC:ah:=an [af 17 0,aY 18 17,b9 19 18 1,ex 20 (ms 8 [(az 0)] (rd 19) (rd 19)),ao 5 20] RB
def Ab:ah:=bm [af 13 1,aY 14 13,bH 15 .eql 14 0] 15 (aB [af 16 0,ao 4 16]) RC
def FP:ah:=bm [af 6 0,aY 7 6,af 8 1,aY 9 8,cw 10 7 9] 10 (.aH [af 11 1,af 12 0,ao 0 11,ao 1 12]) Ab
def FO:ah:=an [aP 4 .ak] FP
theorem alh:aZ Tryz.f239 239 FO [.tmp 4]:=bh
def RD:ah:=aB [af 15 5,bk 16 252 15,ao 4 16]
def RE:ah:=an [af 12 5,af 13 1,bf 14 303 12 13] RD
def RF:ah:=an [af 10 0,bk 11 248 10,ao 5 11] RE
def FR:ah:=bm [af 6 1,aY 7 6,bH 8 .eql 7 0] 8 (aB [af 9 0,ao 4 9]) RF
def FQ:ah:=an [aP 4 .ak] FR
theorem ali:aZ Tryz.f240 240 FQ [.tmp 4]:=bh
def RH:ah:=aB [aA 22 0 2,aC 23 22,aA 24 0 3,aC 25 24,ex 26 (be true .bool (rd 23) (rd 25)),af 27 6,aA 29 0 2,aC 30 29,af 31 7,bf 28 236 26 27,ey 30 29,bf 32 236 30 31,aF 2 4 28,aF 2 5 32]
def RI:ah:=an [aA 15 1 2,aC 16 15,aA 17 1 3,aC 18 17,bf 19 250 16 18,af 14 19,bn 20 0 14,bn 21 1 14,ao 6 20,ao 7 21] RH
def RJ:ah:=bm [aA 8 1 3,aC 9 8,aY 10 9,bH 11 .eql 10 0] 11 (aB [ex 12 (cD [] [aq,.ak] []),ex 13 (cD [] [aq,.ak] []),aF 2 4 12,aF 2 5 13]) RI
def RG:ah:=an [b7 2 0,b7 3 1,ex 4 (alloc [aq,.ak]),ex 5 (alloc [aq,.ak])] RJ
theorem alj:aZ Tryz.f241 241 RG [.cell 4 true 2,.cell 5 true 2]:=bh
def R1:ah:=.aH [aA 114 4 9,aC 115 114,fL 116 115,aA 117 4 9,aF 1 117 116]
def R2:ah:=an [aA 103 3 9,aC 104 103,af 105 11,aA 106 3 9,aC 107 106,af 108 12,af 109 11,bD 110 .mul 108 109,cU 111 107 110,aA 112 2 9,aF 1 112 104,aA 113 3 9,aF 1 113 105,ao 11 111] R1
def R7:ah:=an [aA 92 1 9,aC 93 92,af 94 10,aA 95 1 9,aC 96 95,af 97 12,af 98 10,bD 99 .mul 97 98,cU 100 96 99,aA 101 0 9,aF 1 101 93,aA 102 1 9,aF 1 102 94,ao 10 100] R2
def R8:ah:=an [af 88 8,af 89 7,af 90 8,bD 91 .rem 89 90,ao 7 88,ao 8 91] R7
def R9:ah:=.block 2 (an [af 85 7,af 86 8,bD 87 .quo 85 86,ao 12 87] R8)
def FY:ah:=.seq (an [af 72 8,af 73 11,bD 74 .geq 72 73,af 75 74,bG 75 true 76 7,bG 75 true 77 8,aN 75 true 78 (bi .sub (rd 76) (rd 77)),c6 75 true 79 3 9,c9 75 true 80 79,bG 75 true 81 11,aN 75 true 82 (bi .add (rd 80) (rd 81)),aN 75 true 83 (bi .geq (rd 78) (rd 82)),dM 84 75 83] (bl 84 .skip (.exit 1))) R9
def R_:ah:=aB [aL 118 5 9,aF 5 4 118]
def Sa:ah:=.seq (.block 1 (.loop FY)) R_
def Sb:ah:=an [aP 10 (az 0),aP 11 (az 1)] Sa
def Sc:ah:=an [aA 71 1 9,eP (st 1 (rd 71) (kc (az 1)))] Sb
def FX:ah:=an [ex 9 (alloc [(az 0),(az 0),(az 0),(az 0),aq])] Sc
def Ac:ah:=.seq (an [af 38 1,aY 39 38] (.block 0 (an [af 41 5,bD 42 .eql 39 41,ao 40 42] (bl 40 (.aH [af 43 1,af 44 5,cL 45 44 1,aX 46 1 43 45,aC 47 46,af 48 6,bD 49 .shl 47 48,af 50 1,af 51 5,cL 52 51 2,aX 53 1 50 52,aC 54 53,af 55 6,ex 56 (bi .sub (kc (az 64)) (rd 55)),bD 57 .shr 54 56,bD 58 .or 49 57,ao 8 58]) (an [af 60 5,cL 61 60 1,bD 62 .eql 39 61,ao 59 62] (bl 59 (.aH [af 63 1,af 64 5,cL 65 64 2,aX 66 1 63 65,aC 67 66,af 68 6,ex 69 (bi .sub (kc (az 64)) (rd 68)),bD 70 .shr 67 69,ao 8 70]) .skip)))))) FX
def R3:ah:=an [aP 8 (az 0)] Ac
def R4:ah:=an [af 22 0,af 23 5,cL 24 23 1,aX 25 1 22 24,aC 26 25,af 27 6,bD 28 .shl 26 27,af 29 0,af 30 5,cL 31 30 2,aX 32 1 29 31,aC 33 32,af 34 6,ex 35 (bi .sub (kc (az 64)) (rd 34)),bD 36 .shr 33 35,bD 37 .or 28 36,ao 7 37] R3
def R5:ah:=an [af 15 0,af 16 5,cL 17 16 1,aX 18 1 15 17,aC 19 18,bk 20 308 19,c7 21 .u64 20,ao 6 21] R4
def R6:ah:=an [af 13 0,aY 14 13,ao 5 14] R5
def R0:ah:=an [ex 4 (alloc [(az 0),(az 0),(az 0),(az 0),aq])] R6
theorem alo:aZ Tryz.f249 249 R0 [.cell 4 true 5]:=bh
def Ae:ah:=aB [af 22 0,af 23 1,bf 24 310 22 23,bn 25 0 24,bn 26 1 24,ao 4 25,ao 5 26]
def Af:ah:=bm [af 6 1,aY 7 6,bH 8 .geq 7 80,af 9 8,bG 9 true 10 0,aN 9 true 11 (fF (rd 10)),bG 9 true 12 1,aN 9 true 13 (fF (rd 12)),aN 9 true 14 (bi .sub (rd 11) (rd 13)),ef 9 true 15 .geq 14 80,dM 16 9 15] 16 (aB [af 17 0,af 18 1,bf 19 309 17 18,bn 20 0 19,bn 21 1 19,ao 4 20,ao 5 21]) Ae
def Ad:ah:=an [aP 4 .ak,aP 5 .ak] Af
theorem Jf:aZ Tryz.f250 250 Ad [.tmp 4,.tmp 5]:=bh
def FZ:ah:=.aH [b9 88 21 1,af 21 88]
def Se:ah:=.seq (.block 1 (an [af 23 21,aX 24 1 19 21,aC 25 24,ao 16 23,ao 17 25] (an [af 26 2,af 27 16,aX 28 1 26 27,aC 29 28,ao 18 29] (an [af 31 17,aA 32 0 3,aC 33 32,af 34 6,kG 35 311 31 33 34,af 30 35,bn 36 0 30,bn 37 1 30,ao 12 36,ao 6 37] (an [af 39 18,aA 40 2 3,aC 41 40,af 42 7,kG 43 311 39 41 42,af 38 43,bn 44 0 38,bn 45 1 38,ao 13 44,ao 7 45] (an [af 47 18,aA 48 3 3,aC 49 48,af 50 8,kG 51 311 47 49 50,af 46 51,bn 52 0 46,bn 53 1 46,ao 14 52,ao 8 53] (an [af 55 17,aA 56 1 3,aC 57 56,af 58 9,kG 59 311 55 57 58,af 54 59,bn 60 0 54,bn 61 1 54,ao 15 60,ao 9 61] (bm [aA 62 4 3,aC 63 62] 63 (.aH [af 64 13,af 65 12,af 66 15,af 67 14,ao 12 64,ao 13 65,ao 14 66,ao 15 67]) (an [af 69 1,af 70 16,af 71 13,af 72 12,af 73 10,ex 74 (nA sS [(rd 71),(rd 72),(rd 73)]),af 68 74,bn 75 0 68,bn 76 1 68,aX 77 1 69 70,aF 1 77 75,ao 10 76] (.aH [af 79 2,af 80 16,af 81 15,af 82 14,af 83 11,ex 84 (nA sS [(rd 81),(rd 82),(rd 83)]),af 78 84,bn 85 0 78,bn 86 1 78,aX 87 1 79 80,aF 1 87 85,ao 11 86])))))))))) FZ
def F0:ah:=.seq (bl 22 .skip (.exit 0)) Se
def F1:ah:=an [cw 22 21 20] F0
def Sf:ah:=.block 0 (.loop F1)
def Sg:ah:=an [af 19 1,aY 20 19,eL 21 (ai 0)] Sf
def Sh:ah:=an [aP 12 (az 0),aP 13 (az 0),aP 14 (az 0),aP 15 (az 0)] Sg
def Si:ah:=an [aP 6 (az 0),aP 7 (az 0),aP 8 (az 0),aP 9 (az 0),aP 10 (az 0),aP 11 (az 0)] Sh
def Sd:ah:=an [b7 3 0] Si
theorem alp:aZ Tryz.f251 251 Sd []:=bh
def Ah:ah:=.block 1 (.aH [af 16 3,cL 17 16 1,ao 3 17])
def Ai:ah:=.seq (an [af 6 3,bH 7 .gtr 6 0,af 8 7,bG 8 true 9 0,bG 8 true 10 3,ef 8 true 11 .sub 10 1,aN 8 true 12 (dX none 1 (rd 9) (rd 11)),c9 8 true 13 12,aN 8 true 14 (bi .eql (rd 13) (kc (az 0))),dM 15 8 14] (bl 15 .skip (.exit 0))) Ah
def tH:ah:=aB [af 18 0,af 19 3,ex 20 (jk 1 false true false [(rd 18),(rd 19)]),ao 2 20]
def Aj:ah:=.seq (.block 0 (.loop Ai)) tH
def Ak:ah:=an [af 4 0,aY 5 4,ao 3 5] Aj
def Ag:ah:=an [aP 2 .ak] Ak
theorem Jg:aZ Tryz.f252 252 Ag [.tmp 2]:=bh
def ae8:ah:=aB [af 61 0,af 62 11,af 63 12,af 64 3,af 65 9,ex 66 (jk 1 false true false [(rd 64),(rd 65)]),ex 67 (bF 297 [(rd 61),(rd 62),(rd 63),(rd 66)]),ao 8 67]
def ae9:ah:=an [af 51 0,af 52 10,af 53 2,af 54 12,bD 55 .sub 53 54,ex 56 (mx [(rd 55),(kc (ai 0))]),af 57 3,af 58 9,ex 59 (jk 1 false true false [(rd 57),(rd 58)]),ex 60 (bF 297 [(rd 51),(rd 52),(rd 56),(rd 59)]),ao 0 60] ae8
def ae_:ah:=bm [af 38 10,aY 39 38,bH 40 .eql 39 0,af 41 40,bG 41 true 42 2,ef 41 true 43 .eql 42 0,dM 44 41 43] 44 (aB [af 45 0,af 46 11,af 47 3,af 48 9,ex 49 (jk 1 false true false [(rd 47),(rd 48)]),ex 50 (bF 297 [(rd 45),(rd 46),(kc (ai 0)),(rd 49)]),ao 8 50]) ae9
def ae':ah:=an [af 36 9,ex 37 (bi .shl (kc (ai 19)) (rd 36)),ao 12 37] ae_
def afa:ah:=an [af 28 1,af 29 3,af 30 9,aX 31 1 29 30,aC 32 31,bf 33 250 28 32,af 27 33,bn 34 0 27,bn 35 1 27,ao 10 34,ao 11 35] ae'
def Gg:ah:=bm [af 16 9,bH 17 .lss 16 0,af 18 17,bG 18 false 19 1,aN 18 false 20 (fF (rd 19)),ef 18 false 21 .leq 20 30,en 22 18 21] 22 (aB [af 23 0,af 24 1,af 25 2,kG 26 354 23 24 25,ao 8 26]) afa
def Gh:ah:=an [af 13 3,aY 14 13,cL 15 14 1,ao 9 15] Gg
def Gf:ah:=an [aP 8 .ak] Gh
theorem aan:aZ Tryz.f297 297 Gf [.tmp 8]:=bh
def To:ah:=.aH [b9 51 16 1,af 16 51]
def Tp:ah:=.seq (.block 1 (an [af 18 16,aX 19 1 14 16,aC 20 19,ao 8 18,ao 9 20] (an [af 22 9,af 23 2,bf 24 356 22 23,af 21 24,bn 25 0 21,bn 26 1 21,ao 10 25,ao 11 26] (an [af 28 11,af 29 7,ex 30 (nA qN [(rd 28),(rd 29),(kc (az 0))]),af 27 30,bn 31 0 27,bn 32 1 27,ao 12 31,ao 13 32] (an [af 33 10,af 34 13,cU 35 33 34,ao 10 35] (an [af 37 0,af 38 8,af 39 0,af 40 8,aX 41 1 39 40,aC 42 41,af 43 12,ex 44 (nA qN [(rd 42),(rd 43),(kc (az 0))]),af 36 44,bn 45 0 36,bn 46 1 36,aX 47 1 37 38,aF 1 47 45,ao 13 46] (.aH [af 48 10,af 49 13,cU 50 48 49,ao 7 50]))))))) To
def Gk:ah:=.seq (bl 17 .skip (.exit 0)) Tp
def Tq:ah:=an [cw 17 16 15] Gk
def Tr:ah:=aB [af 52 7,ao 6 52]
def Ts:ah:=.seq (an [af 14 1,aY 15 14,eL 16 (ai 0)] (.block 0 (.loop Tq))) Tr
def Tt:ah:=an [aP 7 (az 0)] Ts
def Tn:ah:=an [aP 6 (az 0)] Tt
theorem alF:aZ Tryz.f300 300 Tn [.tmp 6]:=bh
def Tv:ah:=.aH [b9 28 10 1,af 10 28]
def Tw:ah:=.seq (.block 1 (an [af 12 10,aX 13 1 8 10,aC 14 13,ao 5 12,ao 6 14] (.aH [af 16 0,af 17 5,af 18 0,af 19 5,aX 20 1 18 19,aC 21 20,af 22 6,af 23 4,ex 24 (nA qN [(rd 21),(rd 22),(rd 23)]),af 15 24,bn 25 0 15,bn 26 1 15,aX 27 1 16 17,aF 1 27 25,ao 4 26]))) Tv
def Gl:ah:=.seq (bl 11 .skip (.exit 0)) Tw
def Tx:ah:=an [cw 11 10 9] Gl
def Ty:ah:=.aH [af 39 7,b9 40 39 1,ao 7 40]
def Tz:ah:=.seq (.block 3 (.aH [af 42 0,af 43 7,af 44 0,af 45 7,aX 46 1 44 45,aC 47 46,af 48 4,ex 49 (nA qN [(rd 47),(kc (az 0)),(rd 48)]),af 41 49,bn 50 0 41,bn 51 1 41,aX 52 1 42 43,aF 1 52 50,ao 4 51])) Ty
def TA:ah:=.seq (an [af 31 4,bR 32 .neq 31 .u64 0,af 33 32,bG 33 true 34 7,bG 33 true 35 0,aN 33 true 36 (fF (rd 35)),aN 33 true 37 (bi .lss (rd 34) (rd 36)),dM 38 33 37] (bl 38 .skip (.exit 2))) Tz
def TB:ah:=.block 2 (.loop TA)
def TC:ah:=an [af 29 1,aY 30 29,ao 7 30] TB
def TD:ah:=.seq (an [af 8 1,aY 9 8,eL 10 (ai 0)] (.block 0 (.loop Tx))) TC
def Tu:ah:=an [aP 4 (az 0)] TD
theorem alG:aZ Tryz.f302 302 Tu []:=bh
def TF:ah:=.aH [b9 28 10 1,af 10 28]
def TG:ah:=.seq (.block 1 (an [af 12 10,aX 13 1 8 10,aC 14 13,ao 5 12,ao 6 14] (.aH [af 16 0,af 17 5,af 18 0,af 19 5,aX 20 1 18 19,aC 21 20,af 22 6,af 23 4,ex 24 (nA sS [(rd 21),(rd 22),(rd 23)]),af 15 24,bn 25 0 15,bn 26 1 15,aX 27 1 16 17,aF 1 27 25,ao 4 26]))) TF
def Gm:ah:=.seq (bl 11 .skip (.exit 0)) TG
def TH:ah:=an [cw 11 10 9] Gm
def TI:ah:=.aH [af 39 7,b9 40 39 1,ao 7 40]
def TJ:ah:=.seq (.block 3 (.aH [af 42 0,af 43 7,af 44 0,af 45 7,aX 46 1 44 45,aC 47 46,af 48 4,ex 49 (nA sS [(rd 47),(kc (az 0)),(rd 48)]),af 41 49,bn 50 0 41,bn 51 1 41,aX 52 1 42 43,aF 1 52 50,ao 4 51])) TI
def TK:ah:=.seq (an [af 31 4,bR 32 .neq 31 .u64 0,af 33 32,bG 33 true 34 7,bG 33 true 35 0,aN 33 true 36 (fF (rd 35)),aN 33 true 37 (bi .lss (rd 34) (rd 36)),dM 38 33 37] (bl 38 .skip (.exit 2))) TJ
def TL:ah:=.block 2 (.loop TK)
def TM:ah:=an [af 29 1,aY 30 29,ao 7 30] TL
def TN:ah:=.seq (an [af 8 1,aY 9 8,eL 10 (ai 0)] (.block 0 (.loop TH))) TM
def TE:ah:=an [aP 4 (az 0)] TN
theorem alH:aZ Tryz.f303 303 TE []:=bh
def Uc:ah:=aB [af 3 0,bk 4 218 3,ex 5 (bi .sub (kc (ai 64)) (rd 4)),ao 2 5]
def Ub:ah:=an [bI 2 0] Uc
theorem alL:aZ Tryz.f308 308 Ub [.tmp 2]:=bh
def Ud:ah:=.aH [b9 137 115 1,af 115 137]
def Ue:ah:=.seq (.block 4 (an [af 117 115,aX 118 1 113 115,aC 119 118,ao 18 117,ao 19 119] (.aH [af 121 11,af 122 13,af 123 18,cU 124 122 123,af 125 11,af 126 13,af 127 18,cU 128 126 127,aX 129 1 125 128,aC 130 129,af 131 19,af 132 17,ex 133 (nA qN [(rd 130),(rd 131),(rd 132)]),af 120 133,bn 134 0 120,bn 135 1 120,aX 136 1 121 124,aF 1 136 134,ao 17 135]))) Ud
def Gw:ah:=.seq (bl 116 .skip (.exit 3)) Ue
def Gx:ah:=an [cw 116 115 114] Gw
def Gy:ah:=.aH [af 74 13,cL 75 74 1,ao 13 75]
def Uf:ah:=.seq (.block 2 (an [af 76 11,af 77 13,af 78 13,af 79 8,cU 80 78 79,b9 81 80 1,ex 82 (jk 1 true true false [(rd 76),(rd 77),(rd 81)]),af 83 10,bf 84 365 82 83,ao 14 84] (an [af 85 11,af 86 13,af 87 13,af 88 8,cU 89 87 88,ex 90 (jk 1 true true false [(rd 85),(rd 86),(rd 89)]),af 91 10,af 92 14,kG 93 366 90 91 92,ao 15 93] (an [af 94 11,af 95 13,af 96 8,cU 97 95 96,aX 98 1 94 97,aC 99 98,ao 16 99] (an [af 100 11,af 101 13,af 102 8,cU 103 101 102,af 104 16,af 105 15,bD 106 .sub 104 105,aX 107 1 100 103,aF 1 107 106] (bm [af 108 16,af 109 15,cw 110 108 109] 110 (an [af 111 14,bR 112 .sub 111 .u64 1,ao 14 112] (an [aP 17 (az 0)] (.seq (an [af 113 10,aY 114 113,eL 115 (ai 0)] (.block 3 (.loop Gx))) (.aH [af 138 11,af 139 13,af 140 8,cU 141 139 140,aX 142 1 138 141,aC 143 142,af 144 17,cU 145 143 144,aX 146 1 138 141,aF 1 146 145])))) (.aH [af 147 12,af 148 13,af 149 14,aX 150 1 147 148,aF 1 150 149]))))))) Gy
def Gz:ah:=.seq (an [af 72 13,bH 73 .geq 72 0] (bl 73 .skip (.exit 1))) Uf
def AG:ah:=aB [af 151 12,bk 152 252 151,af 153 11,bk 154 252 153,af 155 9,bf 156 363 154 155,ao 4 152,ao 5 156]
def AH:ah:=.seq (an [af 68 0,aY 69 68,af 70 8,bD 71 .sub 69 70,ao 13 71] (.block 1 (.loop Gz))) AG
def AI:ah:=an [af 62 0,aY 63 62,af 64 8,bD 65 .sub 63 64,b9 66 65 1,ex 67 (ms 8 [(az 0)] (rd 66) (rd 66)),ao 12 67] AH
def Az:ah:=an [af 57 11,af 58 0,af 59 9,bf 60 358 58 59,ex 61 (r3 1 (rd 57) (rd 60))] AI
def AA:ah:=an [af 53 0,aY 54 53,b9 55 54 1,ex 56 (ms 8 [(az 0)] (rd 55) (rd 55)),ao 11 56] Az
def AB:ah:=an [af 50 1,af 51 9,bf 52 358 50 51,ao 10 52] AA
def AD:ah:=an [af 43 1,af 44 8,cL 45 44 1,aX 46 1 43 45,aC 47 46,bk 48 308 47,c7 49 .u64 48,ao 9 49] AB
def AE:ah:=an [af 41 1,aY 42 41,ao 8 42] AD
def AF:ah:=.seq (.block 0 (an [af 21 0,af 22 1,bf 23 235 21 22,bH 24 .lss 23 0,ao 20 24] (bl 20 (aB [af 25 0,aP 4 .ak,ao 5 25]) (an [af 27 1,aY 28 27,bH 29 .eql 28 1,ao 26 29] (bl 26 (an [af 31 0,af 32 1,ex 33 (dX none 1 (rd 32) (kc (ai 0))),aC 34 33,bf 35 364 31 34,af 30 35,bn 36 0 30,bn 37 1 30,ao 6 36,ao 7 37] (aB [af 38 6,af 39 7,bk 40 253 39,ao 4 38,ao 5 40])) .skip))))) AE
def Ay:ah:=an [aP 4 .ak,aP 5 .ak] AF
theorem Jh:aZ Tryz.f310 310 Ay [.tmp 4,.tmp 5]:=bh
def UM:ah:=.aH [af 26 10,cL 27 26 1,ao 10 27]
def UN:ah:=.seq (.block 3 (.aH [af 29 7,af 30 10,af 31 9,af 32 7,af 33 10,aX 34 1 32 33,aC 35 34,ex 36 (bF 314 [(rd 31),(rd 35),(kc (az 10000000000000000000))]),af 28 36,bn 37 0 28,bn 38 1 28,aX 39 1 29 30,aF 1 39 37,ao 9 38])) UM
def GV:ah:=.seq (an [af 24 10,bH 25 .geq 24 0] (bl 25 .skip (.exit 2))) UN
def UY:ah:=.aH [af 42 8,af 43 9,ex 44 (cW 1 [(0,1)] [(az 0)] [(rd 43)]),eo 45 1 8 42 44,ao 8 45]
def UZ:ah:=an [af 40 7,bk 41 252 40,ao 7 41] UY
def U0:ah:=.seq (an [af 21 7,aY 22 21,cL 23 22 1,ao 10 23] (.block 2 (.loop GV))) UZ
def U1:ah:=.block 1 (an [aP 9 (az 0)] U0)
def GW:ah:=.seq (an [af 18 7,aY 19 18,bH 20 .gtr 19 0] (bl 20 .skip (.exit 0))) U1
def U2:ah:=.aH [b9 76 71 1,af 71 76]
def U3:ah:=.seq (.block 7 (.aH [af 73 0,ex 74 (cW 1 [(0,1)] [(.int .u8 0)] [(kc (.int .u8 48))]),eo 75 1 1 73 74,ao 0 75])) U2
def GQ:ah:=.seq (bl 72 .skip (.exit 6)) U3
def GR:ah:=an [cw 72 71 70] GQ
def GS:ah:=.aH [af 51 13,cL 52 51 1,ao 13 52]
def UO:ah:=.seq (.block 5 (an [ex 53 (mY 20 1 false true false [(rd 11),(kc (ai 0))]),af 54 8,af 55 13,aX 56 1 54 55,aC 57 56,ex 58 (bF 296 [(rd 53),(rd 57),(kc (ai 10))]),ao 14 58] (an [bI 15 19] (bm [af 59 12] 59 (.aH [af 60 14,aY 61 60,af 62 2,af 63 13,ex 64 (bi .mul (kc (ai 19)) (rd 63)),bD 65 .sub 62 64,ex 66 (mx [(rd 61),(rd 65)]),ao 15 66]) (.seq (an [af 67 15,af 68 14,aY 69 68,bD 70 .sub 67 69,eL 71 (ai 0)] (.block 6 (.loop GR))) (an [af 77 0,af 78 14,eo 79 1 1 77 78,ao 0 79] (.aH [aP 12 aq]))))))) GS
def GU:ah:=.seq (an [af 49 13,bH 50 .geq 49 0] (bl 50 .skip (.exit 4))) UO
def afn:ah:=.aH [b9 87 82 1,af 82 87]
def afo:ah:=.seq (.block 9 (.aH [af 84 0,ex 85 (cW 1 [(0,1)] [(.int .u8 0)] [(kc (.int .u8 48))]),eo 86 1 1 84 85,ao 0 86])) afn
def afp:ah:=.seq (bl 83 .skip (.exit 8)) afo
def afq:ah:=an [cw 83 82 81] afp
def UP:ah:=aB [af 88 0,ao 6 88]
def UQ:ah:=bm [af 80 12] 80 (an [af 81 2,eL 82 (ai 0)] (.block 8 (.loop afq))) UP
def UR:ah:=.seq (an [af 46 8,aY 47 46,cL 48 47 1,ao 13 48] (.block 4 (.loop GU))) UQ
def US:ah:=an [aP 12 cC] UR
def UT:ah:=an [ex 11 (alloc [(.int .u8 0),(.int .u8 0),(.int .u8 0),(.int .u8 0),(.int .u8 0),(.int .u8 0),(.int .u8 0),(.int .u8 0),(.int .u8 0),(.int .u8 0),(.int .u8 0),(.int .u8 0),(.int .u8 0),(.int .u8 0),(.int .u8 0),(.int .u8 0),(.int .u8 0),(.int .u8 0),(.int .u8 0),(.int .u8 0)])] US
def UU:ah:=.seq (.block 0 (.loop GW)) UT
def UW:ah:=an [aP 8 .ak] UU
def UX:ah:=an [af 16 1,bk 17 248 16,ao 7 17] UW
def UL:ah:=an [aP 6 .ak] UX
theorem aap:aZ Tryz.f354 354 UL [.tmp 6]:=bh
def U7:ah:=aB [af 48 0,af 49 1,bD 50 .mul 48 49,ao 5 50]
def U8:ah:=an [af 40 7,af 41 9,bD 42 .mul 40 41,af 43 13,cU 44 42 43,af 45 12,bR 46 .shr 45 .u64 32,cU 47 44 46,ao 4 47] U7
def U_:ah:=an [af 35 12,af 36 6,af 37 9,bD 38 .mul 36 37,cU 39 35 38,ao 12 39] U8
def U':ah:=an [af 33 11,bR 34 .shr 33 .u64 32,ao 13 34] U_
def Va:ah:=an [af 31 11,bR 32 .and 31 .u64 4294967295,ao 12 32] U'
def Vb:ah:=an [af 25 7,af 26 8,bD 27 .mul 25 26,af 28 10,bR 29 .shr 28 .u64 32,cU 30 27 29,ao 11 30] Va
def Vc:ah:=an [af 22 6,af 23 8,bD 24 .mul 22 23,ao 10 24] Vb
def Vd:ah:=an [af 20 1,bR 21 .shr 20 .u64 32,ao 9 21] Vc
def Ve:ah:=an [af 18 1,bR 19 .and 18 .u64 4294967295,ao 8 19] Vd
def Vf:ah:=an [af 16 0,bR 17 .shr 16 .u64 32,ao 7 17] Ve
def U9:ah:=an [af 14 0,bR 15 .and 14 .u64 4294967295,ao 6 15] Vf
def U6:ah:=an [aP 4 (az 0),aP 5 (az 0)] U9
theorem alT:aZ Tryz.f356 356 U6 [.tmp 4,.tmp 5]:=bh
def Vg:ah:=.aH [b9 57 31 1,af 31 57]
def Vh:ah:=.seq (.block 1 (an [af 33 31,aX 34 1 29 31,aC 35 34,ao 8 33,ao 9 35] (an [af 36 7,af 37 8,af 38 5,cU 39 37 38,aX 40 1 36 39,aC 41 40,af 42 9,af 43 6,bD 44 .shl 42 43,bD 45 .or 41 44,aX 46 1 36 39,aF 1 46 45] (.aH [af 47 7,af 48 8,af 49 5,cU 50 48 49,b9 51 50 1,af 52 9,af 53 6,ex 54 (bi .sub (kc (az 64)) (rd 53)),bD 55 .shr 52 54,aX 56 1 47 51,aF 1 56 55])))) Vg
def GX:ah:=.seq (bl 32 .skip (.exit 0)) Vh
def Vi:ah:=an [cw 32 31 30] GX
def Vj:ah:=aB [af 58 7,bk 59 252 58,ao 4 59]
def Vk:ah:=.seq (an [af 29 0,aY 30 29,eL 31 (ai 0)] (.block 0 (.loop Vi))) Vj
def Vl:ah:=an [af 23 0,aY 24 23,af 25 5,cU 26 24 25,b9 27 26 1,ex 28 (ms 8 [(az 0)] (rd 27) (rd 27)),ao 7 28] Vk
def Vm:ah:=an [af 18 1,bR 19 .quo 18 .u64 64,c7 20 .i64 19,af 21 1,bR 22 .rem 21 .u64 64,ao 5 20,ao 6 22] Vl
def AM:ah:=bm [af 10 0,aY 11 10,bH 12 .eql 11 0,af 13 12,bG 13 false 14 1,aN 13 false 15 (bi .eql (rd 14) (kc (az 0))),en 16 13 15] 16 (aB [af 17 0,ao 4 17]) Vm
def AL:ah:=an [aP 4 .ak] AM
theorem alU:aZ Tryz.f358 358 AL [.tmp 4]:=bh
def xS:ah:=.aH [b9 64 27 1,af 27 64]
def xT:ah:=.seq (.block 1 (an [af 29 27,ao 8 29] (an [af 30 7,af 31 8,af 32 0,af 33 8,af 34 5,cU 35 33 34,aX 36 1 32 35,aC 37 36,af 38 6,bD 39 .shr 37 38,aX 40 1 30 31,aF 1 40 39] (an [af 41 8,af 42 5,cU 43 41 42,b9 44 43 1,af 45 0,aY 46 45,cw 47 44 46] (bl 47 (.aH [af 48 7,af 49 8,aX 50 1 48 49,aC 51 50,af 52 0,af 53 8,af 54 5,cU 55 53 54,b9 56 55 1,aX 57 1 52 56,aC 58 57,af 59 6,ex 60 (bi .sub (kc (az 64)) (rd 59)),bD 61 .shl 58 60,bD 62 .or 51 61,aX 63 1 48 49,aF 1 63 62]) .skip))))) xS
def tI:ah:=.seq (bl 28 .skip (.exit 0)) xT
def G2:ah:=an [cw 28 27 26] tI
def G3:ah:=aB [af 65 7,bk 66 252 65,ao 4 66]
def G4:ah:=.seq (an [af 25 7,aY 26 25,eL 27 (ai 0)] (.block 0 (.loop G2))) G3
def G5:ah:=an [af 20 0,aY 21 20,af 22 5,bD 23 .sub 21 22,ex 24 (ms 8 [(az 0)] (rd 23) (rd 23)),ao 7 24] G4
def G6:ah:=an [af 15 1,bR 16 .quo 15 .u64 64,c7 17 .i64 16,af 18 1,bR 19 .rem 18 .u64 64,ao 5 17,ao 6 19] G5
def xU:ah:=bm [af 9 1,bR 10 .quo 9 .u64 64,af 11 0,aY 12 11,c7 13 .u64 12,bD 14 .geq 10 13] 14 (aB [aP 4 .ak]) G6
def xR:ah:=an [aP 4 .ak] xU
theorem Ji:aZ Tryz.f363 363 xR [.tmp 4]:=bh
def Vq:ah:=.aH [af 17 8,cL 18 17 1,ao 8 18]
def Vr:ah:=.seq (.block 1 (.aH [af 20 6,af 21 8,af 22 7,af 23 0,af 24 8,aX 25 1 23 24,aC 26 25,af 27 1,kG 28 314 22 26 27,af 19 28,bn 29 0 19,bn 30 1 19,aX 31 1 20 21,aF 1 31 29,ao 7 30])) Vq
def Vs:ah:=.seq (an [af 15 8,bH 16 .geq 15 0] (bl 16 .skip (.exit 0))) Vr
def Vt:ah:=aB [af 32 6,bk 33 252 32,af 34 7,ao 4 33,ao 5 34]
def Vu:ah:=.seq (an [af 12 0,aY 13 12,cL 14 13 1,ao 8 14] (.block 0 (.loop Vs))) Vt
def Vv:ah:=an [aP 7 (az 0)] Vu
def Vw:ah:=an [af 9 0,aY 10 9,ex 11 (ms 8 [(az 0)] (rd 10) (rd 10)),ao 6 11] Vv
def Vp:ah:=an [aP 4 .ak,aP 5 (az 0)] Vw
theorem alW:aZ Tryz.f364 364 Vp [.tmp 4,.tmp 5]:=bh
def G8:ah:=bl 75 (aB [af 76 8,ao 4 76]) .skip
def G9:ah:=an [af 73 9,af 74 6,cw 75 73 74] G8
def He:ah:=an [af 70 9,af 71 6,cU 72 70 71,ao 9 72] G9
def AN:ah:=an [af 68 8,bR 69 .sub 68 .u64 1,ao 8 69] He
def xV:ah:=bm [af 50 10,af 51 9,cw 52 50 51,af 53 52,bG 53 false 54 10,bG 53 false 55 9,aN 53 false 56 (bi .eql (rd 54) (rd 55)),bG 53 false 57 56,bG 57 true 58 11,bG 57 true 59 0,bG 57 true 60 5,ef 57 true 61 .sub 60 2,aN 57 true 62 (dX none 1 (rd 59) (rd 61)),c9 57 true 63 62,aN 57 true 64 (bi .leq (rd 58) (rd 63)),aN 53 false 65 (pick (rd 57) (rd 64) (kc aq)),en 66 53 65] 66 (aB [af 67 8,ao 4 67]) AN
def Vx:ah:=.block 1 (an [af 45 8,af 46 7,bf 47 356 45 46,af 44 47,bn 48 0 44,bn 49 1 44,ao 10 48,ao 11 49] xV)
def Vy:ah:=.block 0 (.loop Vx)
def Vz:ah:=an [af 31 0,af 32 5,aX 33 1 31 32,aC 34 33,af 35 0,af 36 5,cL 37 36 1,aX 38 1 35 37,aC 39 38,af 40 6,kG 41 314 34 39 40,af 30 41,bn 42 0 30,bn 43 1 30,ao 8 42,ao 9 43] Vy
def Hf:ah:=bm [af 24 0,af 25 5,aX 26 1 24 25,aC 27 26,af 28 6,bD 29 .geq 27 28] 29 (aB [aP 4 (az 18446744073709551615)]) Vz
def Hg:ah:=an [af 14 1,af 15 5,cL 16 15 1,aX 17 1 14 16,aC 18 17,af 19 1,af 20 5,cL 21 20 2,aX 22 1 19 21,aC 23 22,ao 6 18,ey 23 22,ao 7 23] Hf
def G_:ah:=an [af 12 1,aY 13 12,ao 5 13] Hg
def G7:ah:=an [aP 4 (az 0)] G_
theorem alX:aZ Tryz.f365 365 G7 [.tmp 4]:=bh
def VB:ah:=.aH [b9 51 16 1,af 16 51]
def VC:ah:=.seq (.block 1 (an [af 18 16,aX 19 1 14 16,aC 20 19,ao 8 18,ao 9 20] (an [af 22 9,af 23 2,bf 24 356 22 23,af 21 24,bn 25 0 21,bn 26 1 21,ao 10 25,ao 11 26] (an [af 28 11,af 29 7,ex 30 (nA qN [(rd 28),(rd 29),(kc (az 0))]),af 27 30,bn 31 0 27,bn 32 1 27,ao 12 31,ao 13 32] (an [af 33 10,af 34 13,cU 35 33 34,ao 10 35] (an [af 37 0,af 38 8,af 39 0,af 40 8,aX 41 1 39 40,aC 42 41,af 43 12,ex 44 (nA sS [(rd 42),(rd 43),(kc (az 0))]),af 36 44,bn 45 0 36,bn 46 1 36,aX 47 1 37 38,aF 1 47 45,ao 13 46] (.aH [af 48 10,af 49 13,cU 50 48 49,ao 7 50]))))))) VB
def Hh:ah:=.seq (bl 17 .skip (.exit 0)) VC
def VD:ah:=an [cw 17 16 15] Hh
def VE:ah:=aB [af 52 7,ao 6 52]
def VF:ah:=.seq (an [af 14 1,aY 15 14,eL 16 (ai 0)] (.block 0 (.loop VD))) VE
def VG:ah:=an [aP 7 (az 0)] VF
def VA:ah:=an [aP 6 (az 0)] VG
theorem alY:aZ Tryz.f366 366 VA [.tmp 6]:=bh
end Go.Proofs.YtddhncjmaahodaaGreatDoor
namespace Go.W
def val:List Nat→Nat
 |[]=>0
 |d::l=>d+18446744073709551616*val l
def aM(l:List Nat):Prop:=∀d∈l,d<18446744073709551616
def bM(l:List Nat):Prop:=l.getLast?≠some 0
variable{a:Nat}{d:List Nat}
theorem aM.cons(h:aM (a::d)):a<18446744073709551616∧aM d:=⟨h a aJ,fun x b=>h x (by simp[b])⟩
theorem aM.mk(h:a<18446744073709551616)(b:aM d):aM (a::d):=fun x hx=>by
 rcases gL.1 hx with rfl|hx
 ·exact h
 ·exact b x hx
theorem aM.nil:aM []:=fun _ h=>by cases h
theorem aM.take(h:aM d)(n:Nat):aM (d.take n):=fun x a=>h x (ve a)
theorem aM.drop(h:aM d)(n:Nat):aM (d.drop n):=fun x a=>h x (List.mem_of_mem_drop a)
theorem aM.app{m:List Nat}(h:aM d)(a:aM m):aM (d++m):=fun x hx=>by
 rcases gU.1 hx with hx|hx
 ·exact h x hx
 ·exact a x hx
theorem aM.getD(h:aM d)(i:Nat):d.getD i 0<18446744073709551616:=by
 rw[c_];cases e:d[i]? with
 |none=>simp
 |some x=>exact h x (er e)
theorem gC:∀ {l:List Nat},aM l→val l<18446744073709551616^l.length
 |[],_=>by simp[val]
 |d::l,h=>by
  have a:=gC h.cons.2;have b:=h.cons.1;simp only[val,di,c3];omega
theorem fl:∀(l m:List Nat),val (l++m)=val l+18446744073709551616^l.length*val m
 |[],m=>by simp[val]
 |d::l,m=>by
  simp only[fm,val,di,c3,fl l m,bU];rw[b3 (18446744073709551616^l.length) 18446744073709551616,cg,jq]
theorem Ks(h:a<d.length):d=d.take a++d.getD a 0::d.drop (a+1):=by
 rw[c_,cH h];simp
theorem pB{l:List Nat}{i:Nat}(h:i<l.length):val l=val (l.take i)+18446744073709551616^i*(l.getD i 0+18446744073709551616*val (l.drop (i+1))):=by
 have e:=congrArg val (Ks h);rw[fl,gK (hD h)]at e;exact e
theorem yj{b:List Nat}(f:aM d)(c:a<d.length)(g:a<b.length)(h:d.drop (a+1)=b.drop (a+1))(j:d.getD a 0<b.getD a 0):val d<val b:=by
 rw[pB c,pB g,h];have e:=gC (f.take a);rw[gK (hD c)]at e;have i:18446744073709551616^a*(d.getD a 0+18446744073709551616*val (b.drop (a+1)))+18446744073709551616^a≤18446744073709551616^a*(b.getD a 0+18446744073709551616*val (b.drop (a+1))):=by
  rw[←Nat.mul_succ];exact fc _ aa
 omega
theorem bM.pos(h:bM d)(b:d≠[]):18446744073709551616^(d.length-1)≤val d:=by
 have f:0<d.length:=vb.2 b;have a:d.length-1<d.length:=aa;rw[pB a];have:d.getD (d.length-1) 0≠0:=by
  intro e;refine h ?_;rw[List.getLast?_eq_getElem?,cH a];rw[c_,cH a]at e;exact congrArg some e
 have c:18446744073709551616^(d.length-1)*1≤18446744073709551616^(d.length-1)*(d.getD (d.length-1) 0+18446744073709551616*val (d.drop (d.length-1+1))):=fc _ aa;omega
theorem q9{b:List Nat}(a:aM d)(c:bM b)(h:d.length<b.length):val d<val b:=by
 have f:=gC a;have g:=c.pos (by intro e;rw[e]at h;exact absurd h (pN _));have i:18446744073709551616^d.length≤18446744073709551616^(b.length-1):=fN aa aa;omega
theorem val_inj:∀ {a b:List Nat},aM a→aM b→a.length=b.length→val a=val b→a=b
 |[],[],_,_,_,_=>rfl
 |x::a,y::b,c,d,g,h=>by
  have i:=c.cons.1;have j:=d.cons.1;simp only[val]at h;have e:x=y:=aa;have f:val a=val b:=aa;rw[e,val_inj c.cons.2 d.cons.2 (by simpa using g) f]
theorem canon{b:List Nat}(a:aM d)(c:aM b)(e:bM d)(f:bM b)(h:val d=val b):d=b:=by
 rcases Nat.lt_trichotomy d.length b.length with h1|h1|h1
 ·have:=q9 a f h1;omega
 ·exact val_inj a c h1 h
 ·have:=q9 c e h1;omega
def trim:List Nat→List Nat
 |[]=>[]
 |d::l=>if trim l=[]∧d=0 then []else d::trim l
theorem w4(l:List Nat):trim (l++[0])=trim l:=by
 induction l with
 |nil=>rfl
 |cons d l a=>simp only[fm,trim,a]
theorem wY(l:List Nat)(d:Nat)(h:d≠0):trim (l++[d])=l++[d]:=by
 induction l with
 |nil=>simp[trim,h]
 |cons e l a=>simp only[fm,trim,a];simp
theorem w8:∀l,val (trim l)=val l
 |[]=>rfl
 |d::l=>by
  have a:=w8 l;unfold trim;split
  ·rename_i h;rw[h.1]at a;simp only[val]at a⊢;omega
  ·simp only[val,a]
theorem wZ:∀ {l:List Nat},aM l→aM (trim l)
 |[],h=>h
 |d::l,h=>by
  unfold trim;split
  ·exact aM.nil
  ·exact .mk h.cons.1 (wZ h.cons.2)
theorem y4:∀l,bM (trim l)
 |[]=>by simp[trim,bM]
 |d::l=>by
  have a:=y4 l;unfold trim;split
  ·simp[bM]
  ·rename_i h;unfold bM at*;cases e:trim l with
   |nil=>
    rw[e]at h;simp at h;simpa using h
   |cons x m=>
    rw[e]at a;simpa using a
def aU(n:Nat):List Nat:=if h:n=0 then []else n%18446744073709551616::aU (n/18446744073709551616)
termination_by n
decreasing_by omega
theorem ir:aU 0=[]:=by unfold aU;simp
theorem nV(h:a≠0):aU a=a%18446744073709551616::aU (a/18446744073709551616):=by rw[aU];simp[h]
theorem fz(n:Nat):val (aU n)=n:=by
 induction n using jb with
 |ind n a=>
  by_cases h:n=0
  ·subst h;rw[ir];rfl
  ·rw[nV h];simp only[val,a (n/18446744073709551616) aa];omega
theorem gy(n:Nat):aM (aU n):=by
 induction n using jb with
 |ind n a=>
  by_cases h:n=0
  ·subst h;rw[ir];exact aM.nil
  ·rw[nV h];exact .mk aa (a _ aa)
theorem oe(n:Nat):bM (aU n):=by
 induction n using jb with
 |ind n b=>
  by_cases h:n=0
  ·subst h;rw[ir];simp[bM]
  ·rw[nV h];have:=b (n/18446744073709551616) aa;unfold bM at*;cases e:aU (n/18446744073709551616)with
   |nil=>
    by_cases a:n/18446744073709551616=0
    ·have:n%18446744073709551616≠0:=aa;simpa using this
    ·rw[nV a]at e;cases e
   |cons x m=>
    rw[e]at this;simpa using this
theorem Bd(h:aM d)(t:bM d):aU (val d)=d:=canon (gy _) h (oe _) t (fz _)
theorem og(h:aM d):trim d=aU (val d):=by
 rw[←w8 d];exact(Bd (wZ h) (y4 d)).symm
variable{g:Nat}{z:Nat}
theorem tP(h:g<18446744073709551616^z):(aU g).length≤z:=by
 by_cases e:aU g=[]
 ·rw[e];exact ck _
 ·have b:=(oe g).pos e;rw[fz]at b;have c:(aU g).length-1<z:=(Nat.pow_lt_pow_iff_right (a:=18446744073709551616) aa).1 aa;omega
section
variable {q top u2 kY v1 v2 mz W U V:Nat}
theorem yd(c:V=(v1*18446744073709551616+v2)*W+mz)(b:U=(top*18446744073709551616+u2)*W+kY)(g:kY<W)(f:q*V≤U):q*(v1*18446744073709551616+v2)≤top*18446744073709551616+u2:=by
 obtain⟨X,d⟩:∃X,X=v1*18446744073709551616+v2:=⟨_,rfl⟩;obtain⟨T,hT⟩:∃T,T=top*18446744073709551616+u2:=⟨_,rfl⟩;rw[←d]at c⊢;rw[←hT]at b⊢;have e:q*X*W≤q*V:=by
  rw[cg];exact fc _ aa
 have a:q*X*W<(T+1)*W:=by
  rw[cZ,fM];omega
 have:=rP a;omega
theorem BI(b:V=(v1*18446744073709551616+v2)*W+mz)(a:U=(top*18446744073709551616+u2)*W+kY)(d:kY<W)(f:u2<18446744073709551616)(e:0<v1)(c:q*V≤U):q≤top/v1:=by
 have h:=yd b a d c;rw[bU,←cg]at h;rw[rO e];omega
theorem BJ{h r:Nat}(c:V=(v1*18446744073709551616+v2)*W+mz)(b:U=(top*18446744073709551616+u2)*W+kY)(f:kY<W)(d:q*V≤U)(e:top=h*v1+r)(j:r*18446744073709551616+u2<h*v2):q<h:=by
 rcases k4 q h with h1|h1
 ·exact h1
 ·have g:=yd c b f d;have a:h*(v1*18446744073709551616+v2)≤q*(v1*18446744073709551616+v2):=dz _ h1;rw[bU,←cg]at a;have i:top*18446744073709551616=h*v1*18446744073709551616+r*18446744073709551616:=by rw[e,cZ]
  omega
theorem BK(e:V=(v1*18446744073709551616+v2)*W+mz)(d:U=(top*18446744073709551616+u2)*W+kY)(l:mz<W)(q:0<v1)(k:top=a*v1+g)(p:a<18446744073709551616)(o:a*v2≤g*18446744073709551616+u2):(a-1)*V≤U:=by
 cases a with
 |zero=>simp
 |succ b=>
  have m:top*18446744073709551616=(b+1)*v1*18446744073709551616+g*18446744073709551616:=by rw[k,cZ]
  have c:(b+1)*(v1*18446744073709551616+v2)≤top*18446744073709551616+u2:=by
   rw[bU,←cg];omega
  have j:18446744073709551616≤v1*18446744073709551616+v2:=aa;obtain⟨X,h⟩:∃X,X=v1*18446744073709551616+v2:=⟨_,rfl⟩;obtain⟨T,f⟩:∃T,T=top*18446744073709551616+u2:=⟨_,rfl⟩;rw[←h]at e c j;rw[←f]at d c;have i:(b+1)*X*W≤T*W:=dz _ c;rw[cZ b 1 X,fM,cZ]at i;have n:b*mz≤X*W:=jO aa (hD l);show b*V≤U;rw[e,d,bU,←cg];omega
end
theorem qt:∀ {l:List Nat}{k:Nat},(∀p,k≤p→l.getD p 0=0)→val l=val (l.take k)
 |[],_,_=>aJ
 |d::l,0,h=>by
  have b:=h 0 (aR _);have a:=qt (l:=l) (k:=0) (fun p _=>by simpa using h (p+1) (ck _));simp at b a;simp[val,b,a]
 |d::l,k+1,h=>by
  have a:=qt (l:=l) (k:=k) (fun p c=>by simpa using h (p+1) aa);simp only[List.take_succ_cons,val,a]
theorem oh(l:List Nat)(j:Nat)(h:j≤l.length):val l=val (l.take j)+18446744073709551616^j*val (l.drop j):=by
 have:=congrArg val (oC j l);rw[fl,gK h]at this;exact this.symm
theorem p8(l:List Nat)(j p:Nat):(l.drop j).getD p 0=l.getD (j+p) 0:=by
 simp[c_,pJ]
theorem sX{l:List Nat}{i:Nat}(h:i<l.length):val (l.drop i)=l.getD i 0+18446744073709551616*val (l.drop (i+1)):=by
 rw[kr h,c_,cH h];rfl
theorem uo{l:List Nat}{n:Nat}(e:2≤n)(f:n≤l.length)(d:∀p,n≤p→l.getD p 0=0):val l=(l.getD (n-1) 0*18446744073709551616+l.getD (n-2) 0)*18446744073709551616^(n-2)+val (l.take (n-2)):=by
 have c:val (l.drop n)=0:=by
  have:=qt (l:=l.drop n) (k:=0) (fun p _=>by rw[p8];exact d _ aa);simpa [val]using this
 have a:=pB (l:=l) (i:=n-2) aa;have b:=sX (l:=l) (i:=n-1) aa;rw[(aa:n-1+1=n)]at b;rw[(aa:n-2+1=n-1)]at a;rw[a,b,c,fe,cO,b3 _ (18446744073709551616^(n-2)),iy (val _),iy (l.getD (n-2) 0),b3 18446744073709551616]
section
variable {T U V h k bL P Q K3 adt C1 ar_ q:Nat}
end
def shr(s:Nat):List Nat→List Nat
 |[]=>[]
 |[d]=>[d/2^s]
 |d::e::l=>(d/2^s+(e%2^s)*2^(64-s))::shr s (e::l)
theorem rA(s:Nat):∀l,(shr s l).length=l.length
 |[]=>rfl
 |[_]=>rfl
 |d::e::l=>by simp[shr,rA s (e::l)]
theorem y5(b:a≤63):(18446744073709551616:Nat)=2^a*2^(64-a):=by
 rw[←fX,(aa:a+(64-a)=64)]
theorem wO(b:a≤63):∀l,val (shr a l)=val l/2^a
 |[]=>by simp[shr,val]
 |[d]=>by simp[shr,val]
 |d::e::l=>by
  have i:=wO b (e::l);have h:0<2^a:=e8 aa;have f:val (e::l)%2^a=e%2^a:=by
   show(e+18446744073709551616*val l)%2^a=e%2^a;rw[y5 b,cg,Nat.add_mul_mod_self_left]
  have g:val (d::e::l)/2^a=d/2^a+2^(64-a)*val (e::l):=by
   show(d+18446744073709551616*val (e::l))/2^a=_;rw[y5 b,cg,Nat.add_mul_div_left _ _ h]
  have c:=iN (val (e::l)) (2^a);rw[f]at c;rw[g];show d/2^a+(e%2^a)*2^(64-a)+18446744073709551616*val (shr a (e::l))=_;rw[i,y5 b,rR (2^a),b3 (2^a*(val (e::l)/2^a)),b3 (e%2^a),jq,←bU,iy (e%2^a),c]
theorem uL(b:a≤63):∀ {l},aM l→aM (shr a l)
 |[],h=>h
 |[d],h=>by
  have:=h.cons.1;exact .mk (eH (g7 _ _) this) aM.nil
 |d::e::l,h=>by
  refine .mk ?_ (uL b h.cons.2);have c:0<2^a:=e8 aa;have g:=h.cons.1;have i:d/2^a<2^(64-a):=by
   rw[pM c,b3,←y5 b];exact g
  have f:(e%2^a+1)*2^(64-a)≤2^a*2^(64-a):=dz _ (eK _ c);rw[←y5 b,cZ,fM]at f;omega
theorem wN{s:Nat}:∀ {l:List Nat}{i:Nat},i<l.length→(shr s l).getD i 0=l.getD i 0/2^s+(l.getD (i+1) 0%2^s)*2^(64-s)
 |[],_,h=>absurd h (pN _)
 |[d],0,_=>by simp[shr]
 |[_],_+1,h=>by simp at h
 |d::e::l,0,_=>by simp[shr]
 |d::e::l,i+1,h=>by
  have a:=wN (s:=s) (l:=e::l) (i:=i) (by simpa using h);simpa [shr]using a
end Go.W
namespace Go.aV
structure m8 (iZ gp bL u1 u2 v0 v1 v2 f s:Nat) (iJ:Bool):Prop where
 hF:iZ=v2*f+v1*s
 hS:gp=u2*f+u1*s
 hd:(iJ=true→u2*v1=u1*v2+1)∧(iJ=false→u1*v2=u2*v1+1)
 sf:s≤f
 fp:1≤f
 KM:1≤v2
 KL:u2≤v2
 ph:(v1=0∧v0=0∧u1=1∧u2=0∧v2=1)∨(1≤v1∧u1≤v1∧(v0=0∧iJ=true∨1≤v0∧bL≤v0)∧∃p,iZ=v1*p+v0*f∧gp=u1*p+bL*f∧v1≤f∧f+v0+v1≤p∧(iJ=true→bL*v1=u1*v0+1)∧(iJ=false→u1*v0=bL*v1+1))
variable{a:Nat}{g:Nat}
theorem m8.start(h:g≤a)(b:1≤a):m8 a g 0 1 0 0 0 1 a g false:=
 ⟨aa,aa,⟨(fun h=>by cases h),fun _=>rfl⟩,h,b,aR _,aa,.inl ⟨rfl,rfl,rfl,rfl,rfl⟩⟩
theorem qf(h:1≤g):a≤a*g:=by
 have:=fc a h;rwa[dQ]at this
section
variable {iZ gp bL u1 u2 v0 v1 v2 f s:Nat}{iJ:Bool}
theorem m8.small(h:m8 iZ gp bL u1 u2 v0 v1 v2 f s iJ):v2≤iZ∧(1≤s→v1+v2≤iZ):=by
 have b:=h.hF;have c:v2≤v2*f:=qf h.fp;refine⟨aa,fun a=>?_⟩;have d:v1≤v1*s:=qf a;omega
theorem m8.step(h:m8 iZ gp bL u1 u2 v0 v1 v2 f s iJ)(n:v2≤s)(z:s+(v1+v2)≤f):m8 iZ gp u1 u2 (u1+f/s*u2) v1 v2 (v1+f/s*v2) s (f%s) (!iJ):=by
 have p:=h.KM;have l:0<s:=aa;obtain⟨q,i⟩:∃q,q=f/s:=⟨_,rfl⟩;obtain⟨r,j⟩:∃r,r=f%s:=⟨_,rfl⟩;have k:f=s*q+r:=by rw[i,j];exact(iN f s).symm
 have E:r<s:=by rw[j];exact eK _ l
 have o:1≤q:=by rw[i];exact(rO l).2 aa
 rw[←i,←j];clear i j;have A:=h.hF;have B:=h.hS;have t:v2*f=v2*s*q+v2*r:=by rw[k,bU,cg]
 have u:u2*f=u2*s*q+u2*r:=by rw[k,bU,cg]
 have v:(v1+q*v2)*s=v1*s+v2*s*q:=by
  rw[cZ,cg q v2 s,b3 q]
 have w:(u1+q*u2)*s=u1*s+u2*s*q:=by
  rw[cZ,cg q u2 s,b3 q]
 have x:(u1+q*u2)*v2=u1*v2+u2*v2*q:=by
  rw[cZ,cg q u2 v2,b3 q]
 have y:u2*(v1+q*v2)=u2*v1+u2*v2*q:=by
  rw[bU,b3 q v2,←cg]
 have D:v2≤q*v2:=by rw[b3];exact qf o
 have m:=h.KL;have C:q*u2≤q*v2:=fc _ m;refine⟨aa,aa,⟨fun g=>?_,fun g=>?_⟩,aa,aa,aa,?_,.inr ⟨p,m,?_,f,aa,aa,n,aa,fun g=>?_,fun g=>?_⟩⟩
 ·have:=h.hd.2 (by simpa using g);omega
 ·have:=h.hd.1 (by simpa using g);omega
 ·rcases h.ph with⟨a,b,c,d,e⟩|⟨a,b,_⟩
  ·subst a b c d e;omega
  ·omega
 ·rcases h.ph with⟨a,b,c,d,e⟩|⟨a,b,_⟩
  ·refine .inl ⟨a,?_⟩;cases iJ with
   |false=>rfl
   |true=>
    have:=h.hd.1 rfl;subst a b c d e;omega
  ·exact .inr ⟨a,b⟩
 ·have:=h.hd.2 (by simpa using g);omega
 ·have:=h.hd.1 (by simpa using g);omega
structure rL (a b bL u1 v0 v1:Nat) (iJ:Bool) (a' b':Nat):Prop where
 JG:iJ=true→bL*a=v0*b+a'∧v1*b=u1*a+b'
 ev:iJ=false→v0*b=bL*a+a'∧u1*a=v1*b+b'
 le:b'≤a'
 ba:a=v1*a'+v0*b'
 bb:b=u1*a'+bL*b'
variable{z:Nat}{I:Nat}
theorem m8.pair(h:m8 iZ gp bL u1 u2 v0 v1 v2 f s iJ)(w:v0≠0){X:Nat}(k:z=X*iZ+a)(y:a<X)(l:I=X*gp+g)(A:g<X):∃b c,rL z I bL u1 v0 v1 iJ b c:=by
 rcases h.ph with⟨_,x,_⟩|⟨x,B,j,p,m,n,C,D,E,F⟩
 ·exact absurd x w
 rcases j with⟨j,_⟩|⟨_,j⟩
 ·exact absurd j w
 have L:v0*g≤v0*X:=fc _ (hD A);have M:bL*a≤bL*X:=fc _ (hD y);have N:v1*g≤v1*X:=fc _ (hD A);have O:u1*a≤u1*X:=fc _ (hD y);have P:bL*X≤v0*X:=dz _ j;have Q:u1*X≤v1*X:=dz _ B;have R:f*X+v0*X+v1*X≤p*X:=by
  rw[←cZ,←cZ];exact dz _ D
 have S:v1*X≤f*X:=dz _ C;cases iJ with
 |true=>
  have d:=E rfl;have o:bL*iZ=v0*gp+p:=by
   have:bL*v1*p=u1*v0*p+p:=by rw[d,cZ,fM]
   rw[m,n,bU,bU,←cg,←cg,←cg,←cg,b3 v0 u1,b3 v0 bL];omega
  have q:v1*gp=u1*iZ+f:=by
   have:bL*v1*f=u1*v0*f+f:=by rw[d,cZ,fM]
   rw[m,n,bU,bU,←cg,←cg,←cg,←cg,b3 v1 u1,b3 v1 bL];omega
  have cu:bL*z=X*(v0*gp)+p*X+bL*a:=by
   rw[k,bU,k5,o,bU,b3 X p]
  have G:v0*I=X*(v0*gp)+v0*g:=by
   rw[l,bU,k5]
  have H:v1*I=X*(u1*iZ)+f*X+v1*g:=by
   rw[l,bU,k5,q,bU,b3 X f]
  have J:u1*z=X*(u1*iZ)+u1*a:=by
   rw[k,bU,k5]
  refine⟨p*X+bL*a-v0*g,f*X+v1*g-u1*a,⟨fun _=>⟨aa,aa⟩,fun h=>(by cases h),aa,?_,?_⟩⟩
  ·have e:bL*z=v0*I+(p*X+bL*a-v0*g):=aa;have i:v1*I=u1*z+(f*X+v1*g-u1*a):=aa;generalize p*X+bL*a-v0*g=b at*
   generalize f*X+v1*g-u1*a=c at*
   have r:v1*(bL*z)=v1*(v0*I)+v1*b:=by rw[e,bU]
   have t:v0*(v1*I)=v0*(u1*z)+v0*c:=by rw[i,bU]
   have u:v1*(bL*z)=u1*v0*z+z:=by rw[←cg,b3 v1,d,cZ,fM]
   have K:v0*(u1*z)=u1*v0*z:=by rw[←cg,b3 v0]
   have v:v1*(v0*I)=v0*(v1*I):=k5 _ _ _;omega
  ·have e:bL*z=v0*I+(p*X+bL*a-v0*g):=aa;have i:v1*I=u1*z+(f*X+v1*g-u1*a):=aa;generalize p*X+bL*a-v0*g=b at*
   generalize f*X+v1*g-u1*a=c at*
   have r:u1*(bL*z)=u1*(v0*I)+u1*b:=by rw[e,bU]
   have t:bL*(v1*I)=bL*(u1*z)+bL*c:=by rw[i,bU]
   have u:bL*(v1*I)=u1*(v0*I)+I:=by rw[←cg,d,cZ,fM,cg]
   have v:u1*(bL*z)=bL*(u1*z):=k5 _ _ _;omega
 |false=>
  have d:=F rfl;have o:v0*gp=bL*iZ+p:=by
   have:u1*v0*p=bL*v1*p+p:=by rw[d,cZ,fM]
   rw[m,n,bU,bU,←cg,←cg,←cg,←cg,b3 v0 u1,b3 v0 bL];omega
  have q:u1*iZ=v1*gp+f:=by
   have:u1*v0*f=bL*v1*f+f:=by rw[d,cZ,fM]
   rw[m,n,bU,bU,←cg,←cg,←cg,←cg,b3 v1 u1,b3 v1 bL];omega
  have cu:v0*I=X*(bL*iZ)+p*X+v0*g:=by
   rw[l,bU,k5,o,bU,b3 X p]
  have G:bL*z=X*(bL*iZ)+bL*a:=by
   rw[k,bU,k5]
  have H:u1*z=X*(v1*gp)+f*X+u1*a:=by
   rw[k,bU,k5,q,bU,b3 X f]
  have J:v1*I=X*(v1*gp)+v1*g:=by
   rw[l,bU,k5]
  refine⟨p*X+v0*g-bL*a,f*X+u1*a-v1*g,⟨fun h=>(by cases h),fun _=>⟨aa,aa⟩,aa,?_,?_⟩⟩
  ·have e:v0*I=bL*z+(p*X+v0*g-bL*a):=aa;have i:u1*z=v1*I+(f*X+u1*a-v1*g):=aa;generalize p*X+v0*g-bL*a=b at*
   generalize f*X+u1*a-v1*g=c at*
   have r:v1*(v0*I)=v1*(bL*z)+v1*b:=by rw[e,bU]
   have t:v0*(u1*z)=v0*(v1*I)+v0*c:=by rw[i,bU]
   have u:v0*(u1*z)=bL*v1*z+z:=by rw[←cg,b3 v0,d,cZ,fM]
   have K:v1*(bL*z)=bL*v1*z:=by rw[←cg,b3 v1]
   have v:v1*(v0*I)=v0*(v1*I):=k5 _ _ _;omega
  ·have e:v0*I=bL*z+(p*X+v0*g-bL*a):=aa;have i:u1*z=v1*I+(f*X+u1*a-v1*g):=aa;generalize p*X+v0*g-bL*a=b at*
   generalize f*X+u1*a-v1*g=c at*
   have r:u1*(v0*I)=u1*(bL*z)+u1*b:=by rw[e,bU]
   have t:bL*(u1*z)=bL*(v1*I)+bL*c:=by rw[i,bU]
   have u:u1*(v0*I)=bL*(v1*I)+I:=by rw[←cg,d,cZ,fM,cg]
   have v:u1*(bL*z)=bL*(u1*z):=k5 _ _ _;omega
end
variable{z:Nat}{I:Nat}{m:Bool}
theorem rL.gcd{v0 v1 d f:Nat}(h:rL a g z I v0 v1 m d f):cx d f=cx a g:=by
 refine Nat.dvd_antisymm (Nat.dvd_gcd ?_ ?_) (Nat.dvd_gcd ?_ ?_)
 ·rw[h.ba];exact Nat.dvd_add (rN (Nat.gcd_dvd_left _ _) (s_ _ _)) (rN (ta _ _) (s_ _ _))
 ·rw[h.bb];exact Nat.dvd_add (rN (Nat.gcd_dvd_left _ _) (s_ _ _)) (rN (ta _ _) (s_ _ _))
 ·have b:∀x,cx a g∣x*a:=fun x=>rN (Nat.gcd_dvd_left _ _) (s_ _ _)
  have c:∀x,cx a g∣x*g:=fun x=>rN (ta _ _) (s_ _ _)
  cases m with
  |true=>have e:=(h.JG rfl).1;exact(Nat.dvd_add_right (c v0)).1 (e▸b z)
  |false=>have e:=(h.ev rfl).1;exact(Nat.dvd_add_right (b z)).1 (e▸c v0)
 ·have b:∀x,cx a g∣x*a:=fun x=>rN (Nat.gcd_dvd_left _ _) (s_ _ _)
  have c:∀x,cx a g∣x*g:=fun x=>rN (ta _ _) (s_ _ _)
  cases m with
  |true=>have e:=(h.JG rfl).2;exact(Nat.dvd_add_right (b I)).1 (e▸c v1)
  |false=>have e:=(h.ev rfl).2;exact(Nat.dvd_add_right (c v1)).1 (e▸b I)
theorem rL.less{v0 v1 b c:Nat}(h:rL a g z I v0 v1 m b c)(d:1≤v0)(e:1≤v1)(f:0<g):b+c<a+g:=by
 have:=h.ba;have i:b≤v1*b:=by rw[b3];exact qf e
 have j:c≤v0*c:=by rw[b3];exact qf d
 omega
theorem anA(y:a<18446744073709551616)(z:g<18446744073709551616):∃h b c d,a%4294967296*(g%4294967296)=h∧a/4294967296*(g%4294967296)=b∧a%4294967296*(g/4294967296)=c∧a/4294967296*(g/4294967296)=d∧
 h≤18446744065119617025∧b≤18446744065119617025∧c≤18446744065119617025∧d≤18446744065119617025∧a*g=d*18446744073709551616+(b+c)*4294967296+h:=by
 have q:a=a/4294967296*4294967296+a%4294967296:=aa;have r:g=g/4294967296*4294967296+g%4294967296:=aa;have m:a/4294967296≤4294967295:=aa;have n:g/4294967296≤4294967295:=aa;have o:a%4294967296≤4294967295:=aa;have p:g%4294967296≤4294967295:=aa;obtain⟨e,j⟩:∃t,t=a/4294967296:=⟨_,rfl⟩;obtain⟨f,l⟩:∃t,t=g/4294967296:=⟨_,rfl⟩;obtain⟨s,i⟩:∃t,t=a%4294967296:=⟨_,rfl⟩;obtain⟨u,k⟩:∃t,t=g%4294967296:=⟨_,rfl⟩;rw[←j,←i]at q;rw[←l,←k]at r;rw[←j]at m;rw[←l]at n;rw[←i]at o;rw[←k]at p;rw[←j,←l,←i,←k];refine⟨_,_,_,_,rfl,rfl,rfl,rfl,jO o p,jO m p,jO o n,jO m n,?_⟩;rw[q,r,cZ,bU,bU];have v:e*4294967296*(f*4294967296)=e*f*18446744073709551616:=by
  rw[Nat.mul_mul_mul_comm]
 have w:e*4294967296*u=e*u*4294967296:=rR _ _ _;have x:s*(f*4294967296)=s*f*4294967296:=(cg _ _ _).symm;omega
structure kH (u d v1 v0 q r:Nat):Prop where
 top:u=q*v1+r
 ge:(u*4294967296+d)/(v1*4294967296+v0)≤q
theorem kH.start(c:g<4294967296)(b:0<z):kH a g z I (a/z) (a%z):=by
 refine⟨by rw[b3];exact(iN a z).symm,?_⟩;have d:0<z*4294967296+I:=aa;refine BI (top:=a) (u2:=g) (v1:=z) (v2:=I) (W:=1) (mz:=0) (kY:=0) (V:=z*4294967296+I) (U:=a*4294967296+g) aa aa aa c b ?_;exact vg _ _
theorem kH.down{q r:Nat}(h:kH a g z I q r)(f:g<4294967296)(c:0<z)(b:r*4294967296+g<q*I):kH a g z I (q-1) (r+z):=by
 have d:=BJ (q:=(a*4294967296+g)/(z*4294967296+I)) (top:=a) (u2:=g) (v1:=z) (v2:=I) (h:=q) (r:=r) (W:=1) (mz:=0) (kY:=0) (V:=z*4294967296+I) (U:=a*4294967296+g) aa aa aa (vg _ _) h.top b;have e:q*z=(q-1)*z+z:=by
  cases q with
  |zero=>omega
  |succ q=>rw[pL,cZ,fM]
 exact⟨by have:=h.top;omega,aa⟩
theorem kH.done{q r:Nat}(h:kH a g z I q r)(b:0<z)(c:q*I≤r*4294967296+g):q=(a*4294967296+g)/(z*4294967296+I):=by
 refine Nat.le_antisymm ?_ h.ge;rw[rO aa,bU,←cg];have:=h.top;have e:a*4294967296=q*z*4294967296+r*4294967296:=by rw[this,cZ]
 omega
end Go.aV
namespace Go.Proofs.YtddhncjmaahodaaGreatDoor
open Go.aE Go.aV
theorem vO(n:Nat):ax n=W.aU n:=by
 induction n using jb with
 |ind n a=>
  by_cases h:n=0
  ·rw[h,js,W.ir]
  ·rw[IB h,W.nV h,a _ aa]
theorem fV(n:Nat):W.aM (ax n):=by rw[vO];exact W.gy n
theorem Bj(n:Nat):W.bM (ax n):=by rw[vO];exact W.oe n
theorem fT(n:Nat):W.val (ax n)=n:=by rw[vO];exact W.fz n
variable{d:List Nat}
theorem agZ(h:W.aM d)(t:W.bM d):ax (W.val d)=d:=by rw[vO];exact W.Bd h t
theorem kX(h:W.aM d):W.trim d=ax (W.val d):=by rw[vO];exact W.og h
variable{a:Nat}{g:Nat}
theorem tR(h:a<18446744073709551616^g):(ax a).length≤g:=by rw[vO];exact W.tP h
theorem mN(n:Nat):n<18446744073709551616^(ax n).length:=by
 have:=W.gC (fV n);rwa[fT]at this
theorem kN{m n:Nat}(h:m≤n):(ax m).length≤(ax n).length:=tR (eH h (mN n))
variable{r:Int}
theorem mK{b:Int}(h:r<b):eX r b= -1:=by rw[eX,ay h]
theorem A9{b:Int}(h:r=b):eX r b=0:=by rw[eX,au aa,au aa]
theorem mJ{b:Int}(h:b<r):eX r b=1:=by rw[eX,au aa,ay h]
theorem tJ(m n:Nat)(A:(ax m).length<1000000)(B:(ax n).length<1000000):bA 235 [bz (ax m),bz (ax n)] (ai (eX m n)):=by
 refine cT (.cons (dA _) (.cons (dA _) .nil)) (.int _ _) (bg ald ?_);have q:=fV m;have r:=fV n;have v:=Bj m;have w:=Bj n;have x:=fT m;have y:=fT n;generalize ax m=a at*
 generalize ax n=b at*
 subst x y;rcases Nat.lt_trichotomy a.length b.length with h|h|h
 ·have p:=W.q9 q w h;simp(disch:=omega)only[go_sem,z7,z9,df];refine use (A8 _ _) ?_;simp only[go_sem];rw[mK aa,mK aa]
 ·simp(disch:=omega)only[go_sem,z7,z9,Rv,dt,aQ];refine bW (fun k F s=>∃j:Nat,rd 0 F=bz a∧rd 1 F=bz b∧rd 5 F=ai ((j:Int)-1)∧k=j∧j≤a.length∧a.drop j=b.drop j) a.length ⟨a.length,?_,?_,?_,rfl,aR _,?_⟩ ?_
  iterate 3 simp only[go_sem]
  ·rw[i_ (aR _),i_ aa]
  rintro j F s ⟨_,c,d,e,rfl,z,f⟩;unfold Rt;cases j with
  |zero=>
   have t:a=b:=by simpa using f
   simp(disch:=omega)only[go_sem,Ru,e,dt];rw[A9 (by rw[t])]
  |succ i=>
   have o:(((i+1:Nat):Int)-1).toNat=i:=aa;have g:i<a.length:=aa;have l:i<b.length:=aa;rcases Nat.lt_trichotomy (a.getD i 0) (b.getD i 0)with u|heq|hgt
   ·have p:=W.yj q g l f u;simp(disch:=omega)only[go_sem,z8,c,d,e,df,gw,o,dB];refine use (Yx _ _) ?_;simp only[go_sem];rw[mK aa,mK aa]
   ·simp(disch:=omega)only[go_sem,z8,Rs,c,d,e,dt,df,gw,o,dB,aQ];refine⟨i,aa,i,?_,?_,?_,rfl,aa,?_⟩
    iterate 2 simp only[go_sem,c,d]
    ·simp only[go_sem];congr 1;omega
    ·rw[kr g,kr l,f];congr 1;simpa [c_,g,l]using heq
   ·have p:=W.yj r l g f.symm hgt;simp(disch:=omega)only[go_sem,z8,c,d,e,df,gw,o,dB];refine use (Yx _ _) ?_;simp only[go_sem];rw[mJ aa,mJ aa]
 ·have p:=W.q9 r v h;simp(disch:=omega)only[go_sem,z7,z9,df];refine use (A8 _ _) ?_;simp only[go_sem];rw[mJ aa,mJ aa]
variable{z:Nat}{I:Nat}{p:IntKind}
theorem Cz{b:IntKind}{h:Int}(d:0≤r∧r≤h∧h≤z∧z≤I∧r<I):slice3 (jA a) true true false [.slice g 0 z (.known I),.int p r,.int b h]=some (.val (.slice g (r.toNat*a) (h.toNat-r.toNat) (.known (I-r.toNat)))):=by
 show pg g 0 z I a (some (.int p r)) (some (.int b h))=_;unfold pg;rw[qQ (l:=r.toNat) (h:=h.toNat) (k8 p d.1) (k8 b aa) aa aa];show some (bx.val (.slice g (Bool.casesOn (motive:=fun _=>Nat) (bK I r.toNat) (fW 0 (dW r.toNat a)) 0) (iz h.toNat r.toNat) (.known (iz I r.toNat))))=_;rw[show bK I r.toNat=false from mB.2 fun c=>by have:=(beq_eq _ _).1 c;omega];have:fW 0 (dW r.toNat a)=r.toNat*a:=by show 0+r.toNat*a=_;omega
 show some (bx.val (.slice g (fW 0 (dW r.toNat a)) (iz h.toNat r.toNat) (.known (iz I r.toNat))))=_;rw[this];rfl
theorem CQ:∀l:List Nat,W.trim l=l.take (W.trim l).length
 |[]=>rfl
 |d::l=>by
  have a:=CQ l;unfold W.trim;split
  ·rfl
  ·simp only[di,List.take_succ_cons];rw[←a]
theorem are(l g:List Nat)(b c:Nat)(q:l.length≤c)(r:l.length<4294967296)(H:ag)(h:H.get b=.cells (aT (l++g)) 0):
 dN 252 [.slice b 0 l.length (.known c)] H fun v d=>v=.slice b 0 (W.trim l).length (.known c)∧d=H:=by
 refine bg Jg ?_;simp only[go_sem,Ag,Ak,Aj];refine bW (fun k F d=>∃m:Nat,rd 0 F=.slice b 0 l.length (.known c)∧rd 3 F=ai (m:Int)∧W.trim (l.take m)=W.trim l∧k=m∧m≤l.length∧d=H) l.length ⟨l.length,?_,?_,by rw[cq (aR _)],rfl,aR _,rfl⟩ ?_
 iterate 2 simp only[go_sem]
 rintro m F d ⟨_,e,f,a,rfl,t,rfl⟩;unfold Ai;cases m with
 |zero=>
  simp(disch:=omega)only[go_sem,tH,e,f,df,sR];refine⟨?_,trivial⟩;rw[←a];rfl
 |succ i=>
  have o:(((i+1:Nat):Int)-1).toNat=i:=aa;have s:i<(l++g).length:=by simp;omega
  have n:(l++g).getD i 0=l.getD i 0:=by
   simp only[c_];rw[k3 aa]
  have p:l.take (i+1)=l.take i++[l.getD i 0]:=by
   rw[jZ aa,c_,cH aa];rfl
  rw[p]at a;by_cases j:l.getD i 0=0
  ·simp(disch:=omega)only[go_sem,Ah,e,f,dt,aQ,cR,o,h,dB,n];refine⟨i,aa,i,?_,?_,?_,rfl,aa,rfl⟩
   ·simp only[go_sem,e]
   ·simp only[go_sem];congr 1;omega
   ·rw[j,W.w4]at a;exact a
  ·simp(disch:=omega)only[go_sem,tH,e,f,dt,df,aQ,cR,o,h,dB,n,sR];rw[W.wY _ _ j]at a;rw[←a];simp;omega
theorem BW(x y:Nat)(k:x<18446744073709551616)(l:y<18446744073709551616):bA 356 [az (x:Int),az (y:Int)] (.aK [az ((x*y/18446744073709551616:Nat):Int),az ((x*y%18446744073709551616:Nat):Int)]):=by
 refine cT (.cons (.int _ _) (.cons (.int _ _) .nil)) (.aK (.cons (.int _ _) (.cons (.int _ _) .nil))) (bg alT ?_);obtain⟨a,b,c,d,f,g,h,i,B,C,D,ct,e⟩:=anA k l;have r:aG .u64 (((x%4294967296:Nat):Int)*((y%4294967296:Nat):Int))=(a:Int):=by rw[←e7,f];exact cj _ aa
 have s:aG .u64 (((x/4294967296:Nat):Int)*((y%4294967296:Nat):Int))=(b:Int):=by rw[←e7,g];exact cj _ aa
 have c5:aG .u64 (((x%4294967296:Nat):Int)*((y/4294967296:Nat):Int))=(c:Int):=by rw[←e7,h];exact cj _ aa
 have v:aG .u64 (((x/4294967296:Nat):Int)*((y/4294967296:Nat):Int))=(d:Int):=by rw[←e7,i];exact cj _ aa
 obtain⟨t,z⟩:∃t,t=b+a/4294967296:=⟨_,rfl⟩;have m:aG .u64 ((b:Int)+((a/4294967296:Nat):Int))=(t:Int):=by rw[cj _ aa];omega
 obtain⟨u,A⟩:∃u,u=t%4294967296+c:=⟨_,rfl⟩;have n:aG .u64 (((t%4294967296:Nat):Int)+(c:Int))=(u:Int):=by rw[cj _ aa];omega
 have o:aG .u64 ((d:Int)+((t/4294967296:Nat):Int))=((d+t/4294967296:Nat):Int):=by rw[cj _ aa];omega
 have j:x*y/18446744073709551616=d+t/4294967296+u/4294967296:=by rw[e];omega
 have w:x*y<340282366920938463463374607431768211456:=by rw[e];omega
 have p:aG .u64 (((d+t/4294967296:Nat):Int)+((u/4294967296:Nat):Int))=((x*y/18446744073709551616:Nat):Int):=by rw[j,cj _ aa];omega
 have q:aG .u64 ((x:Int)*(y:Int))=((x*y%18446744073709551616:Nat):Int):=by rw[gE,←e7,Int.natCast_emod];rfl
 simp(disch:=omega)only[go_sem,U6,U9,Vf,Ve,Vd,Vc,Vb,Va,U',U_,U8,U7,zy,pe,r,s,c5,v,m,n,o,p,q]
structure d_ (H H1:ag) (b:Nat) (cs:List V):Prop where
 next:H1.next=H.next
 get:∀y,H1.get y=if y=b then .cells cs 0 else H.get y
variable{c:ag}{J:ag}{b:List V}
theorem d_.at(h:d_ c J a b):J.get a=.cells b 0:=by rw[h.get,ay rfl]
theorem d_.refl(h:c.get a=.cells b 0):d_ c c a b:=⟨rfl,fun y=>by
 split
 ·rename_i e;rw[e,h]
 ·rfl⟩
theorem d_.set{cs:List V}(h:d_ c J a cs)(b:List V):d_ c (J.set a (.cells b 0)) a b:=⟨h.next,fun y=>by
 rw[ag.a_];by_cases e:y=a
 ·rw[ay e.symm,ay e]
 ·rw[au (fun h=>e h.symm),au e,h.get,au e]⟩
theorem d_.trans{a:ag}{b:Nat}{g d:List V}(h:d_ c J b g)(f:d_ J a b d):d_ c a b d:=⟨f.next.trans h.next,fun y=>by
 rw[f.get];by_cases e:y=b
 ·rw[ay e,ay e]
 ·rw[au e,au e,h.get,au e]⟩
theorem jI(l:List Nat)(i v:Nat):(aT l).set i (az (v:Int))=aT (l.set i v):=by simp[aT,List.map_set]
theorem w_(l m:List Nat):aT (l++m)=aT l++aT m:=by simp[aT]
theorem jX{l:List Nat}{i:Nat}(h:i<l.length):W.val (l.take (i+1))=W.val (l.take i)+18446744073709551616^i*l.getD i 0:=by
 rw[jZ h,W.fl,gK (hD h),c_,cH h];simp[W.val]
theorem Cu(ds a:List Nat)(e v:Nat):(ds++e::a).set ds.length v=(ds++[v])++a:=aJ
theorem pZ{l:List Nat}{i:Nat}(h:i<l.length):l.drop i=l.getD i 0::l.drop (i+1):=by
 rw[kr h,c_,cH h];rfl
theorem x7(ds a:List Nat)(e:Nat):(ds++e::a).getD ds.length 0=e:=aJ
theorem Ig{P d x y z:Nat}{V X:Nat}(h:V+P*a=X+g)(b:x+y+a=d+18446744073709551616*z):V+P*d+P*18446744073709551616*z=X+P*x+(g+P*y):=by
 have e:=congrArg (P* ·) b;simp only[bU,←cg]at e;omega
theorem adS(a d:List Nat)(n:Nat)(B:W.aM a)(N:W.aM d)(R:d.length≤a.length)(T:a.length<1000000)(L:a.length=n)(b:Nat)(c:Cap)(H:ag)(G:H.get b=.cells (aT a) 0):
 dN 302 [.slice b 0 n c,bz d] H fun _ o=>∃q k,q.length=a.length∧W.aM q∧W.val q+18446744073709551616^a.length*k=W.val a+W.val d∧d_ H o b (aT q):=by
 subst L;refine bg alG ?_;simp(disch:=omega)only[go_sem,Tu,TD]
 refine bW (fun k F o=>∃(ds:List Nat) (e:Nat),k=d.length-ds.length∧ds.length≤d.length∧rd 0 F=.slice b 0 a.length c∧rd 1 F=bz d∧rd 4 F=az (e:Int)∧rd 8 F=bz d∧rd 9 F=ai (d.length:Int)∧rd 10 F=ai (ds.length:Int)∧e≤1∧W.aM ds∧
  W.val ds+18446744073709551616^ds.length*e=W.val (a.take ds.length)+W.val (d.take ds.length)∧d_ H o b (aT (ds++a.drop ds.length))) d.length ⟨[],0,rfl,ck _,?_,?_,?_,?_,?_,?_,aa,W.aM.nil,rfl,d_.refl G⟩ ?_
 iterate 2 simp only[go_sem]
 ·simp only[go_sem];rfl
 iterate 2 simp only[go_sem]
 ·simp only[go_sem];rfl
 rintro k F o ⟨ds,e,rfl,w,g,r,h,u,p,t,v,m,j,f⟩;unfold Tx;by_cases E:ds.length<d.length
 ·have M:=B.getD ds.length;have S:=N.getD ds.length;have x:=pZ (l:=a) (i:=ds.length) aa;rw[x]at f;have y:=f.at;have J:ds.length<(aT (ds++a.getD ds.length 0::a.drop (ds.length+1))).length:=by rw[eD];simp
  have K:ds.length<(ds++a.getD ds.length 0::a.drop (ds.length+1)).length:=aJ;have z:=x7 ds (a.drop (ds.length+1)) (a.getD ds.length 0);simp(disch:=omega)only[go_sem,Gl,Tw,Tv,g,h,u,p,t,dt,gw,cR,dB,y,z,tn,gk,jI,Cu,aQ];obtain⟨s,A⟩:∃s,s=a.getD ds.length 0+d.getD ds.length 0+e:=⟨_,rfl⟩;rw[←A];refine⟨d.length-(ds.length+1),aa,ds++[s%18446744073709551616],s/18446744073709551616,aJ,by simp;omega,?_,?_,?_,?_,?_,?_,aa,m.app (.mk aa W.aM.nil),?_,?_⟩
  iterate 5 simp only[go_sem,g,r,u,p]
  ·simp only[go_sem,bt,gm];rfl
  ·rw[W.fl];simp only[bt,gm,c3,W.val,fe,cO];rw[jX aa,jX aa];exact Ig j aa
  ·have:=f.set (aT ((ds++[s%18446744073709551616])++a.drop (ds.length+1)));simpa using this
 ·have i:ds.length=d.length:=aa;simp(disch:=omega)only[go_sem,Gl,TC,TB,r,p,t,df]
  refine bW (fun k F o=>∃(ds:List Nat) (e:Nat),k=a.length-ds.length∧d.length≤ds.length∧ds.length≤a.length∧rd 0 F=.slice b 0 a.length c∧rd 4 F=az (e:Int)∧rd 7 F=ai (ds.length:Int)∧e≤1∧W.aM ds∧
   W.val ds+18446744073709551616^ds.length*e=W.val (a.take ds.length)+W.val d∧d_ H o b (aT (ds++a.drop ds.length))) (a.length-ds.length) ⟨ds,e,rfl,aa,aa,?_,?_,?_,v,m,by rw[j,i,cq (l:=d) (aR _)],f⟩ ?_
  iterate 3 simp only[go_sem,g,h,i]
  clear j f m v i w g r h u p t E;rintro k O P ⟨ds,e,rfl,Q,w,g,h,C,v,m,j,f⟩;unfold TA;by_cases I:e=0
  ·subst I;simp(disch:=omega)only[go_sem,h,jn,decide_true];refine⟨ds++a.drop ds.length,0,by simp;omega,m.app (B.drop _),?_,f⟩;rw[W.fl,W.oh a ds.length w];omega
  ·by_cases E:ds.length<a.length
   ·have M:=B.getD ds.length;have x:=pZ (l:=a) (i:=ds.length) aa;rw[x]at f;have y:=f.at;have J:ds.length<(aT (ds++a.getD ds.length 0::a.drop (ds.length+1))).length:=by rw[eD];simp
    have K:ds.length<(ds++a.getD ds.length 0::a.drop (ds.length+1)).length:=aJ;have z:=x7 ds (a.drop (ds.length+1)) (a.getD ds.length 0);have D:=tn (a:=a.getD ds.length 0) (b:=0) (c:=e) aa;simp only[jn]at D;simp(disch:=omega)only[go_sem,Tz,Ty,g,h,C,dt,df,cR,dB,y,z,D,gk,jI,Cu,aQ];obtain⟨s,A⟩:∃s,s=a.getD ds.length 0+e:=⟨_,rfl⟩;rw[←A];refine⟨a.length-(ds.length+1),aa,ds++[s%18446744073709551616],s/18446744073709551616,aJ,by simp;omega,by simp;omega,?_,?_,?_,aa,m.app (.mk aa W.aM.nil),?_,?_⟩
    iterate 2 simp only[go_sem,g]
    ·simp only[go_sem,bt,gm];rfl
    ·rw[W.fl];simp only[bt,gm,c3,W.val,fe,cO];rw[jX aa];have:=Ig (x:=a.getD ds.length 0) (y:=0) (z:=s/18446744073709551616) (d:=s%18446744073709551616) j aa;rw[fe,cO]at this;exact this
    ·have:=f.set (aT ((ds++[s%18446744073709551616])++a.drop (ds.length+1)));simpa using this
   ·have i:ds.length=a.length:=aa;simp(disch:=omega)only[go_sem,g,h,C,df];rw[i,i_ (aR _),fA]at f;rw[i,cq (aR _)]at j;exact⟨ds,e,i,m,j,f⟩
theorem aaa(q:Rat):bA 277 [cN q] (.bool (decide (q.num=0))):=by
 refine cT (.cons (h_ _) .nil) (.bool _) (bg alx ?_);simp only[go_sem,SL,SM,cN,cm];refine use (v7 q.num) ?_;simp only[go_sem]
theorem abv(a b:List Nat)(L:a.length=b.length)(M:a.length≤1000000000)(H:a.sum≤1000000000000)(I:b.sum≤1000000000000):bA 276 [cG a,cG b] (ai (ord a b)):=by
 refine cT (.cons (oQ _) (.cons (oQ _) .nil)) (.int _ _) (bg alw ?_);simp only[go_sem,SB,SF,SE];refine bW (fun k c q=>∃i:Nat,rd 0 c=cG a∧rd 1 c=cG b∧rd 10 c=cG a∧rd 11 c=ai (a.length:Int)∧rd 5 c=ai (((a.take i).sum:Nat):Int)∧rd 6 c=ai (((b.take i).sum:Nat):Int)∧rd 12 c=ai (i:Int)∧k=a.length-i∧i≤a.length) a.length ⟨0,?_,?_,?_,?_,?_,?_,?_,rfl,ck _⟩ ?_
 iterate 4 simp only[go_sem]
 ·simp only[go_sem,nK];rfl
 ·simp only[go_sem,nK];rfl
 ·simp only[go_sem];rfl
 rintro k c q ⟨i,m,n,t,e,f,g,o,rfl,J⟩;unfold SG;by_cases A:i<a.length
 ·have F:=yU a (i+1);have G:=yU b (i+1);have d:=yV A;have z:=yV (l:=b) (i:=i) aa;simp(disch:=omega)only[go_sem,An,SD,SC,n,t,e,f,g,o,dt,qb,bN,qg,aQ];refine⟨a.length-(i+1),aa,i+1,?_,?_,?_,?_,?_,?_,?_,rfl,aa⟩
  iterate 4 simp only[go_sem,m,n,t,e]
  ·simp only[go_sem];rw[d];rfl
  ·simp only[go_sem];rw[z];rfl
  ·simp only[go_sem];rfl
 ·have B:i=a.length:=aa;subst B;rw[cq (aR _)]at f;rw[cq aa]at g;by_cases v:a.sum=b.sum
  ·simp(disch:=omega)only[go_sem,An,F7,SK,m,f,g,e,o,dt,df,aQ];have p:ord a b=rl a.reverse b.reverse:=ay v;refine bW (fun k c q=>rd 0 c=cG a∧rd 1 c=cG b∧rd 9 c=ai ((k:Int)-1)∧k≤a.length∧rl (a.take k).reverse (b.take k).reverse=ord a b) a.length ⟨?_,?_,?_,aR _,?_⟩ ?_
   iterate 3 simp only[go_sem,m,n]
   ·rw[cq (aR _),cq aa,p]
   rintro k y E ⟨l,d,r,K,h⟩;unfold SI;cases k with
   |zero=>
    simp(disch:=omega)only[go_sem,SJ,r,dt];rw[←h];rfl
   |succ j=>
    have s:rd 9 y=ai (j:Int):=by rw[r];congr 1;omega
    have C:j<a.length:=aa;have D:j<b.length:=aa;rw[Ch C,Ch D]at h;by_cases w:a.getD j 0=b.getD j 0
    ·simp(disch:=omega)only[go_sem,F6,SH,l,d,s,dt,df,qb,bN,qg,aQ];refine⟨j,lU j,?_,?_,?_,aa,?_⟩
     iterate 3 simp only[go_sem,l,d]
     ·rw[←h];simp only[rl];rw[ay w]
    ·simp(disch:=omega)only[go_sem,F6,l,d,s,df,qb,bN,qg];refine use (A8 _ _) ?_;simp only[go_sem];rw[←h];simp only[rl];rw[au w];unfold eX;by_cases x:b.getD j 0<a.getD j 0
     ·rw[ay x,ay aa]
     ·rw[au x,au aa,ay aa]
  ·have p:ord a b=if a.sum<b.sum then-1 else 1:=au v
   simp(disch:=omega)only[go_sem,An,F7,f,g,e,o,df];refine use (A8 _ _) ?_;simp only[go_sem];rw[p];unfold eX;by_cases u:a.sum<b.sum
   ·rw[ay u,ay aa]
   ·rw[au u,au aa,ay aa]
theorem agt(a:List Nat)(q:a.length≤6)(o:a.sum≤24):bA 290 [cG a] (ai (a.sum:Int)):=by
 refine cT (.cons (oQ _) .nil) (.int _ _) (bg alz ?_);have n:¬(6:Int)<((a.length:Nat):Int):=aa;simp(disch:=assumption)only[go_sem,SP,SX,SW,SV,df];refine bW (fun k b g=>∃i:Nat,rd 9 b=cG a∧rd 10 b=ai (a.length:Int)∧rd 3 b=ai (((a.take i).sum:Nat):Int)∧rd 11 b=ai (i:Int)∧k=a.length-i∧i≤a.length) a.length ⟨0,?_,?_,?_,?_,rfl,ck _⟩ ?_
 iterate 2 simp only[go_sem]
 ·simp only[go_sem,nK];rfl
 ·simp only[go_sem];rfl
 rintro k b g ⟨i,f,c,d,e,rfl,p⟩;unfold SS;by_cases j:i<a.length
 ·have m:=yU a (i+1);have h:=yV j;simp(disch:=omega)only[go_sem,F8,SR,SQ,f,c,d,e,dt,df,qb,bN,qg,aQ];refine⟨a.length-(i+1),aa,i+1,?_,?_,?_,?_,rfl,aa⟩
  iterate 2 simp only[go_sem,f,c]
  ·simp only[go_sem];rw[h];rfl
  ·simp only[go_sem];rfl
 ·have l:i=a.length:=aa;rw[l,cq (aR _)]at d;simp(disch:=omega)only[go_sem,F8,SU,c,e,d,df]
theorem Ju(a:List Nat)(c:a.length≤6)(b:a.sum≤24):bA 224 [cG a] cC:=by
 refine cT (.cons (oQ _) .nil) (.bool _) (bg ak7 ?_);simp only[go_sem,Q3,Q4];refine use (agt a c b) ?_;simp(disch:=omega)only[go_sem,df]
def dg(e:List Nat):List V:=cY e++br (6-e.length) (ai 0)
def bX(t:aI):List V:=dg t.2++cm t.1
def mO(t:aI):V:=.agg (bX t)
theorem yB{e:List Nat}(h:e.length≤6):(dg e).length=6:=by simp[dg,jG];omega
theorem kO{t:aI}(h:t.2.length≤6):(bX t).length=10:=by
 unfold bX;rw[bt,yB h];rfl
theorem ahB(e:List Nat):cM (dg e):=nY (IP e) (cM.iff.2 fun v h=>by rw[List.eq_of_mem_replicate h];exact .int _ _)
theorem Zh(t:aI):cM (bX t):=nY (ahB _) (Zl _)
theorem IM(t:aI):bZ (mO t):=.agg (Zh t)
theorem pV:de b=true↔∀v∈b,v.one=true:=by
 induction b with
 |nil=>exact⟨fun _ _ h=>(by cases h),fun _=>rfl⟩
 |cons a b e=>
  show and a.one (de b)=true↔_;rw[cz,e];constructor
  ·rintro⟨c,d⟩ v hv;rcases gL.1 hv with rfl|hv
   ·exact c
   ·exact d v hv
  ·exact fun h=>⟨h a aJ,fun v hv=>h v (by simp[hv])⟩
theorem xy(e:List Nat):de (cY e)=true:=pV.2 fun v h=>by
 simp only[cY,nc]at h;obtain⟨d,_,rfl⟩:=h;rfl
theorem qO(t:aI):de (bX t)=true:=pV.2 fun v h=>by
 unfold bX dg at h;rcases gU.1 h with h|h
 ·rcases gU.1 h with h|h
  ·exact pV.1 (xy _) v h
  ·rw[List.eq_of_mem_replicate h];rfl
 ·exact pV.1 (show de (cm t.1)=true from rfl) v h
theorem uw{l:List V}(h:b.length=l.length):dx b l 0=some b:=by
 rw[nu,ay aa];simp[h]
theorem Jp{xs l:List V}(h:xs.length≤l.length):dx xs l 0=some (xs++l.drop xs.length):=by
 rw[nu,ay aa];simp
variable{o:Fr}{j:Option Nat}{f:Fr→ag→Prop}
theorem ag3{b:Nat}{cs:List V}(g:c.get b=.cells cs 0)(p:6≤cs.length)(h:d.length≤6)(k:f (put o j (ai (d.length:Int))) (c.set b (.cells (cY d++cs.drop d.length) 0))):
 gT j f o (nq 1 [.slice b 0 6 (.known 6),cG d] c):=by
 have l:dO d.length 6=d.length:=kf h;have e:nq 1 [.slice b 0 6 (.known 6),cG d] c=some (ai (d.length:Int),c.set b (.cells (cY d++cs.drop d.length) 0)):=by
  show av (some d.length) (fun m=>av (ec c 1 (dO m 6) (cG d)) fun n=>av (c.e5 b 0 n) fun c=>some (V.int .i64 (.ofNat (dO m 6)),c))=_;show av (ec c 1 (dO d.length 6) (cG d)) _=_;rw[l];have i:ec c 1 d.length (cG d)=some (cY d):=jH (by rw[jG];show d.length=d.length*1;omega);rw[i];show av (c.e5 b 0 (cY d)) _=_;unfold ag.e5;rw[g];show av (bq (de (cY d)) (av (dx (cY d) cs 0) fun a=>some (c.set b (.cells a 0)))) _=_;rw[xy,Jp (by rw[jG];omega),jG];rfl
 rw[e];exact k
theorem ahp(e:List Nat)(q:∀x∈e,x≤1048576)(s:e.length≤6)(F:Fr)(H:ag)(R:X→Fr→ag→Prop)(m:rd 32 F=cG e)(n:rd 33 F=ai (e.length:Int))(o:rd 34 F=ai 0)
 (p:∀d,(∀t,t<9→rd t d=rd t F)→R (.exit 0) d H):bT (.loop Gp) R F H:=by
 refine bW (fun k a f=>∃i:Nat,k=e.length-i∧i≤e.length∧(∀t,t<9→rd t a=rd t F)∧rd 32 a=cG e∧rd 33 a=ai (e.length:Int)∧rd 34 a=ai (i:Int)∧f=H) e.length ⟨0,rfl,ck _,fun _ _=>rfl,m,n,o,rfl⟩ ?_;rintro k a f ⟨i,rfl,r,j,g,b,h,rfl⟩;unfold Gp;by_cases l:i<e.length
 ·have u:e.getD i 0≤1048576:=by
   refine q _ ?_;rw[c_,cH l];exact u_ l
  simp(disch:=omega)only[go_sem,Gn,TQ,TP,g,b,h,dt,df,qb,bN,qg,aQ];refine⟨e.length-(i+1),aa,i+1,rfl,aa,fun t c=>?_,?_,?_,?_,rfl⟩
  ·simp(disch:=omega)only[cc];exact j t c
  iterate 2 simp only[go_sem,g,b]
  ·simp only[go_sem];rfl
 ·simp(disch:=omega)only[go_sem,Gn,b,h,df];refine p _ fun t c=>?_
  simp(disch:=omega)only[cc];exact j t c
theorem amK(h:a∈d):a≤d.sum:=by
 induction d with
 |nil=>cases h
 |cons c d b=>
  rw[List.sum_cons];rcases gL.1 h with rfl|h
  ·omega
  ·have:=b h;omega
theorem nC(n:Nat):rep [V.int .u64 0] n=aT (br n 0):=by
 induction n with
 |zero=>rfl
 |succ n a=>
  show ez [V.int .u64 0] (rep [V.int .u64 0] n)=_;rw[iV,a];simp[aT,oA]
theorem oS{b:Cap}(h:c.get a=.cells (aT d) 0)(f:J.get a=.none)(i:d.length=g):cr c J (.slice a 0 g b) (bz d):=by
 subst i;cases d with
 |nil=>exact .e4 a 0 b
 |cons e d=>
  refine .row (m:=(e::d).length) (cs:=aT (e::d)) ?_ (nh _) f (dy.refl _);rw[gj h,eY,eR,ay (by rw[eD];exact aR _),cq (by rw[eD];exact aR _)]
theorem pz(l:List Nat)(j:l.length<4294967296):bA 252 [bz l] (bz (W.trim l)):=by
 refine cT (.cons (dA _) .nil) (dA _) (bg Jg ?_);simp only[go_sem,Ag,Ak,Aj];refine bW (fun k F h=>∃m:Nat,rd 0 F=bz l∧rd 3 F=ai (m:Int)∧W.trim (l.take m)=W.trim l∧k=m∧m≤l.length) l.length ⟨l.length,?_,?_,by rw[cq (aR _)],rfl,aR _⟩ ?_
 iterate 2 simp only[go_sem]
 rintro m F h ⟨_,a,c,b,rfl,n⟩;unfold Ai;have f:slice3 (jA 1) false true false [bz l,ai (m:Int)]=some (.val (bz (l.take m))):=by
  rw[bz,Cy (by rw[eD,dQ]) aa];simp only[bz,aT,ep,dQ,List.map_take,bN];rw[(aa:min m l.length=m)]
 cases m with
 |zero=>
  simp(disch:=omega)only[go_sem,tH,a,c,df,f];rw[←b];rfl
 |succ i=>
  have e:(((i+1:Nat):Int)-1).toNat=i:=aa;have g:l.take (i+1)=l.take i++[l.getD i 0]:=by
   rw[jZ aa,c_,cH aa];rfl
  by_cases d:l.getD i 0=0
  ·simp(disch:=omega)only[go_sem,Ah,a,c,dt,aQ,gw,e,dB];refine⟨i,aa,i,?_,?_,?_,rfl,aa⟩
   ·simp only[go_sem,a]
   ·simp only[go_sem];congr 1;omega
   ·rw[g,d,W.w4]at b;exact b
  ·simp(disch:=omega)only[go_sem,tH,a,c,dt,df,aQ,gw,e,dB,f];rw[←b,g,W.wY _ _ d]
theorem Bm{b:Cap}{cs:List V}(l:c.get a=.cells cs 0)(r:d.length≤g)(t:g≤cs.length)(p:f (put o j (ai (d.length:Int))) (c.set a (.cells (aT d++cs.drop d.length) 0))):
 gT j f o (nq 1 [.slice a 0 g b,bz d] c):=by
 have q:dO d.length g=d.length:=kf r;have k:de (aT d)=true:=pV.2 fun v h=>by
  simp only[aT,nc]at h;obtain⟨j,_,rfl⟩:=h;rfl
 have i:nq 1 [.slice a 0 g b,bz d] c=some (ai (d.length:Int),c.set a (.cells (aT d++cs.drop d.length) 0)):=by
  show av (some d.length) (fun m=>av (ec c 1 (dO m g) (bz d)) fun s=>av (c.e5 a 0 s) fun c=>some (V.int .i64 (.ofNat (dO m g)),c))=_;show av (ec c 1 (dO d.length g) (bz d)) _=_;rw[q];have n:ec c 1 d.length (bz d)=some (aT d):=jH (by rw[eD];show d.length=d.length*1;omega);rw[n];show av (c.e5 a 0 (aT d)) _=_;unfold ag.e5;rw[l];show av (bq (de (aT d)) (av (dx (aT d) cs 0) fun e=>some (c.set a (.cells e 0)))) _=_;rw[k,Jp (by rw[eD];omega),eD];rfl
 rw[i];exact p
theorem adU(m n:Nat)(u:(ax m).length<100000)(w:(ax n).length<100000):bA 239 [bz (ax m),bz (ax n)] (bz (ax (m+n))):=by
 refine e3 (.cons (dA _) (.cons (dA _) .nil)) (bg alh ?_)
 have l:∀(a b:Nat) (F:Fr),(ax b).length≤(ax a).length→(ax a).length<100000→a+b=m+n→rd 0 F=bz (ax a)→rd 1 F=bz (ax b)→
  bT Ab (gl [.tmp 4] fun y d=>∃v,cr d (ag.zero d.next) y v∧bZ v∧v=bz (ax (m+n))) F (ag.zero 5):=by
  intro a b F q G i f e;by_cases D:(ax b).length=0
  ·have o:b=0:=m6 fun h=>by have:=(iE b).2 h;omega
   simp(disch:=omega)only[go_sem,Ab,f,e,dt];exact g8 (by rw[←i,o];rfl) (dA _)
  ·simp(disch:=omega)only[go_sem,Ab,RC,RB,f,e,df,aQ,iH,nC];have r:(aT (br ((ax a).length+1) 0)).drop (ax a).length=aT [0]:=by
    rw[aT,←List.map_drop,List.drop_replicate,Nat.add_sub_cancel_left];rfl
   refine Bm (cs:=aT (br ((ax a).length+1) 0)) (by simp only[go_sem]) aa (by rw[eD];simp) ?_;rw[r,←w_];simp only[go_sem,RA,e];have j:(ax a++[0]).length=(ax a).length+1:=aJ;have t:W.aM (ax a++[0]):=(fV a).app (.mk aj W.aM.nil);refine(adS (ax a++[0]) (ax b) _ t (fV b) aa aa j 5 _ _ ?_).mono ?_
   ·simp only[go_sem]
   rintro _ d ⟨z,k,E,x,c,g⟩;have s:W.val (ax a++[0])=a:=by rw[W.fl,fT];simp[W.val]
   rw[s,fT]at c;have p:k=0:=by
    have A:=mN a;have B:=ei (mN b) (fN (n:=18446744073709551616) aj q);rw[j,c3]at c;have C:a+b<18446744073709551616^(ax a).length*18446744073709551616:=aa;cases k with
    |zero=>rfl
    |succ k=>rw[Nat.mul_succ]at c;omega
   rw[p,fe,cO,i]at c;simp only[go_sem,Rz];refine iL (pz z aa) g.at ⟨0,_,_,dH.2 rfl⟩ (.cons (oS g.at (by rw[ag.a_,ay rfl]) aa) .nil) ?_;simp only[go_sem];exact g8 (by rw[kX x,c]) (dA _)
 by_cases h:(ax m).length<(ax n).length
 ·simp(disch:=omega)only[go_sem,FO,FP,dt];refine l n m _ aa w aa ?_ ?_
  iterate 2 simp only[go_sem]
 ·simp(disch:=omega)only[go_sem,FO,FP,df];refine l m n _ aa u rfl ?_ ?_
  iterate 2 simp only[go_sem]
structure dh (H:ag) (b g:Nat) (cs:List V):Prop where
 row:H.get b=.cells cs g
 b5:∃f,H.get g=.b5 b f∧f≤b
 ne:g≠0
theorem dh.gh(h:dh c a g b):c.gh a g=true:=by
 obtain⟨f,d,e⟩:=h.b5;exact yg d e
theorem dh.aei(h:dh c a g b):a≠g:=by
 obtain⟨f,d,i⟩:=h.b5;intro e;have:=h.row;rw[e,d]at this;cases this
structure k6 (H H1:ag) (b g:Nat) (cs:List V):Prop where
 lC:dh H1 b g cs
 next:H1.next=H.next
 get:∀y,y≠b→y≠g→H1.get y=H.get y
theorem k6.refl(h:dh c a g b):k6 c c a g b:=⟨h,rfl,fun _ _ _=>rfl⟩
def ag.wr(H:ag)(b g:Nat)(a:List V):ag:=(H.set b (.cells a g)).set g (.b5 b b)
theorem k6.wr(h:k6 c J a g b)(d:List V):k6 c (ag.wr J a g d) a g d:=by
 have j:=h.lC.aei;refine⟨⟨?_,⟨a,?_,aR _⟩,h.lC.ne⟩,h.next,fun y f i=>?_⟩
 ·unfold ag.wr;rw[ag.a_,au (fun e=>j e.symm),ag.a_,ay rfl]
 ·unfold ag.wr;rw[ag.a_,ay rfl]
 ·unfold ag.wr;rw[ag.a_,au (fun e=>i e.symm),ag.a_,au (fun e=>f e.symm)];exact h.get y f i
theorem q5(h:dh c g z b):hH false a [.ptr g I] c=eu b I:=by
 rw[amJ,h.row];exact aaD h.gh
theorem wT{n:Nat}(h:dh c a g b)(m:z<b.length):qm 1 [.ptr a z,az (n:Int)] c=some (V.undef,ag.wr c a g (b.set z (az (n:Int)))):=by
 obtain⟨f,j,_⟩:=h.b5;obtain⟨d,l⟩:∃d,g=d+1:=⟨g-1,by have:=h.ne;omega⟩;have k:=h.row;show bq true (av (c.e5 a z [az (n:Int)]) fun c=>some (V.undef,c))=_;unfold ag.e5;rw[k];show bq true (av (bq true (av (dx [V.int .u64 (n:Int)] b z) fun i=>Nat.rec (motive:=fun _=>Option ag) (some (c.set a (.cells i 0))) (fun _ _=>eg.casesOn (motive:=fun _=>Option ag) (c.get g) aW (fun _ _=>aW) (fun e _=>bq (bK e a) (some ((c.set a (.cells i g)).set g (.b5 a a)))) (fun _=>aW)) g)) fun c=>some (V.undef,c))=_;rw[gk m];subst l;show bq true (av (bq true (eg.casesOn (motive:=fun _=>Option ag) (c.get (d+1)) aW (fun _ _=>aW) (fun e _=>bq (bK e a) (some ((c.set a (.cells (b.set z (az (n:Int))) (d+1))).set (d+1) (.b5 a a)))) (fun _=>aW))) fun c=>some (V.undef,c))=_;rw[j];show bq true (av (bq true (bq (bK a a) (some ((c.set a (.cells (b.set z (az (n:Int))) (d+1))).set (d+1) (.b5 a a))))) fun c=>some (V.undef,c))=_;rw[Nat.beq_refl];rfl
theorem vp{P b:Nat}{V X Y:Nat}(h:X+P*g=V+Y)(c:z+18446744073709551616*b=a+I+g):X+P*z+P*18446744073709551616*b=V+P*a+(Y+P*I):=by
 have e:=congrArg (P* ·) c;simp only[bU,←cg]at e;omega
theorem sub_one{y:Nat}(c:a<18446744073709551616)(d:y<18446744073709551616)(b:g≤1):a+18446744073709551616*(if y+g≤a then 0 else 1)=(a+18446744073709551616-y-g)%18446744073709551616+y+g:=by
 split<;>omega
theorem aqQ(a d:List Nat)(n:Nat)(N:W.aM a)(X:W.aM d)(hl:d.length≤a.length)(ls:a.length<1000000)(V:a.length=n)(b g:Nat)(c:Cap)(H:ag)(T:dh H b g (aT a)):
 dN 303 [.slice b 0 n c,bz d] H fun _ j=>∃y k,y.length=a.length∧W.aM y∧W.val a+18446744073709551616^a.length*k=W.val y+W.val d∧k6 H j b g (aT y):=by
 subst V;refine bg alH ?_;simp(disch:=omega)only[go_sem,TE,TN]
 refine bW (fun k F j=>∃(ds:List Nat) (e:Nat),k=d.length-ds.length∧ds.length≤d.length∧rd 0 F=.slice b 0 a.length c∧rd 1 F=bz d∧rd 4 F=az (e:Int)∧rd 8 F=bz d∧rd 9 F=ai (d.length:Int)∧rd 10 F=ai (ds.length:Int)∧e≤1∧W.aM ds∧
  W.val (a.take ds.length)+18446744073709551616^ds.length*e=W.val ds+W.val (d.take ds.length)∧k6 H j b g (aT (ds++a.drop ds.length))) d.length ⟨[],0,rfl,ck _,?_,?_,?_,?_,?_,?_,aa,W.aM.nil,rfl,k6.refl T⟩ ?_
 iterate 2 simp only[go_sem]
 ·simp only[go_sem];rfl
 iterate 2 simp only[go_sem]
 ·simp only[go_sem];rfl
 rintro k F j ⟨ds,e,rfl,D,i,A,m,C,x,B,o,t,r,f⟩;unfold TH;by_cases R:ds.length<d.length
 ·have O:=N.getD ds.length;have Y:=X.getD ds.length;have E:=pZ (l:=a) (i:=ds.length) aa;rw[E]at f;have w:=f.lC;have J:ds.length<(aT (ds++a.getD ds.length 0::a.drop (ds.length+1))).length:=by rw[eD];simp
  have K:ds.length<(ds++a.getD ds.length 0::a.drop (ds.length+1)).length:=aJ;have G:=x7 ds (a.drop (ds.length+1)) (a.getD ds.length 0);have I:hH false 1 [.ptr b ds.length] j=some (az ((a.getD ds.length 0:Nat):Int)):=by rw[q5 w,dB K,G]
  obtain⟨s,q⟩:∃s,s=(a.getD ds.length 0+18446744073709551616-d.getD ds.length 0-e)%18446744073709551616:=⟨_,rfl⟩;obtain⟨z,h⟩:∃z,z=(if d.getD ds.length 0+e≤a.getD ds.length 0 then 0 else 1:Nat):=⟨_,rfl⟩;have v:=sub_one O Y o;rw[←q,←h]at v;have u:=CJ (a:=a.getD ds.length 0) (b:=d.getD ds.length 0) o;rw[←q,←h]at u;have M:=wT (n:=s) w J;have P:z≤1:=by rw[h];split<;>omega
  have L:s<18446744073709551616:=aa;clear q h;simp(disch:=omega)only[go_sem,Gm,TG,TF,i,m,C,x,B,dt,gw,cR,dB,I,u,M,aQ];refine⟨d.length-(ds.length+1),aa,ds++[s],z,aJ,by simp;omega,?_,?_,?_,?_,?_,?_,P,t.app (.mk L W.aM.nil),?_,?_⟩
  iterate 5 simp only[go_sem,i,A,C,x]
  ·simp only[go_sem,bt,gm];rfl
  ·rw[W.fl];simp only[bt,gm,c3,W.val,fe,cO];rw[jX aa,jX aa];exact vp r v
  ·rw[jI,Cu];have:=f.wr (aT ((ds++[s])++a.drop (ds.length+1)));simpa using this
 ·have p:ds.length=d.length:=aa;simp(disch:=omega)only[go_sem,Gm,TM,TL,A,x,B,df]
  refine bW (fun k F j=>∃(ds:List Nat) (e:Nat),k=a.length-ds.length∧d.length≤ds.length∧ds.length≤a.length∧rd 0 F=.slice b 0 a.length c∧rd 4 F=az (e:Int)∧rd 7 F=ai (ds.length:Int)∧e≤1∧W.aM ds∧
   W.val (a.take ds.length)+18446744073709551616^ds.length*e=W.val ds+W.val d∧k6 H j b g (aT (ds++a.drop ds.length))) (a.length-ds.length) ⟨ds,e,rfl,aa,aa,?_,?_,?_,o,t,by rw[r,p,cq (l:=d) (aR _)],f⟩ ?_
  iterate 3 simp only[go_sem,i,m,p]
  clear r f t o p D i A m C x B R;rintro k Z S ⟨ds,e,rfl,ab,D,i,m,Q,o,t,r,f⟩;unfold TK;by_cases U:e=0
  ·subst U;simp(disch:=omega)only[go_sem,m,jn,decide_true];refine⟨ds++a.drop ds.length,0,by simp;omega,t.app (N.drop _),?_,f⟩;rw[W.fl,W.oh a ds.length D];omega
  ·by_cases R:ds.length<a.length
   ·have O:=N.getD ds.length;have E:=pZ (l:=a) (i:=ds.length) aa;rw[E]at f;have w:=f.lC;have J:ds.length<(aT (ds++a.getD ds.length 0::a.drop (ds.length+1))).length:=by rw[eD];simp
    have K:ds.length<(ds++a.getD ds.length 0::a.drop (ds.length+1)).length:=aJ;have G:=x7 ds (a.drop (ds.length+1)) (a.getD ds.length 0);have I:hH false 1 [.ptr b ds.length] S=some (az ((a.getD ds.length 0:Nat):Int)):=by rw[q5 w,dB K,G]
    obtain⟨s,q⟩:∃s,s=(a.getD ds.length 0+18446744073709551616-0-e)%18446744073709551616:=⟨_,rfl⟩;obtain⟨z,h⟩:∃z,z=(if 0+e≤a.getD ds.length 0 then 0 else 1:Nat):=⟨_,rfl⟩;have v:=sub_one (y:=0) O aj o;rw[←q,←h]at v;have u:=CJ (a:=a.getD ds.length 0) (b:=0) o;rw[←q,←h]at u;simp only[jn]at u;have M:=wT (n:=s) w J;have P:z≤1:=by rw[h];split<;>omega
    have L:s<18446744073709551616:=aa;clear q h;simp(disch:=omega)only[go_sem,TJ,TI,i,m,Q,dt,df,cR,I,u,M,aQ];refine⟨a.length-(ds.length+1),aa,ds++[s],z,aJ,by simp;omega,by simp;omega,?_,?_,?_,P,t.app (.mk L W.aM.nil),?_,?_⟩
    iterate 2 simp only[go_sem,i]
    ·simp only[go_sem,bt,gm];rfl
    ·rw[W.fl];simp only[bt,gm,c3,W.val,fe,cO];rw[jX aa];have:=vp r v;rw[fe,cO]at this;exact this
    ·rw[jI,Cu];have:=f.wr (aT ((ds++[s])++a.drop (ds.length+1)));simpa using this
   ·have p:ds.length=a.length:=aa;simp(disch:=omega)only[go_sem,i,m,Q,df];rw[p,i_ (aR _),fA]at f;rw[p,cq (aR _)]at r;exact⟨ds,e,p,t,r,f⟩
theorem dh.dw(h:dh c a g (aT d))(b:z≤d.length):c.dw a 0 z=some (aT (d.take z)):=by
 unfold ag.dw;rw[A6 h.row h.gh];show cF (eA (aT d) 0) z=_;rw[eY,eR,ay (by rw[eD];exact b)];simp[aT,List.map_take]
theorem p5{b:Cap}{l:List Nat}(h:dh c a g (aT d))(i:J.get a=.none)(k:l.length=z)(f:d.take z=l):cr c J (.slice a 0 z b) (bz l):=by
 subst k;have j:l.length≤d.length:=by
  have:=congrArg jD f;rw[ep]at this;omega
 cases l with
 |nil=>exact .e4 a 0 b
 |cons e l=>
  refine .row (m:=(e::l).length) (cs:=aT (e::l)) ?_ (nh _) i (dy.refl _);rw[h.dw j,f]
theorem acD(b:0≤r∧r≤g):slice3 (jA 1) false true false [.slice a 0 g (.grown 1),.int p r]=some (.val (.slice a 0 r.toNat (.grown 1))):=by
 show bq true (uO a 0 g (.grown 1) 1 none (some (.int p r)))=_;unfold uO;rw[qQ (l:=0) (h:=r.toNat) rfl (k8 p b.1) (ck _) aa];rfl
theorem CO(l:List Nat)(M:List Nat)(n:Nat)(r:l.length=n)(f:M.take n=l)(t:M.length<4294967296)(b g:Nat)(H:ag)(p:dh H b g (aT M)):
 dN 252 [.slice b 0 n (.grown 1)] H fun v c=>v=.slice b 0 (W.trim l).length (.grown 1)∧c=H:=by
 subst r;have u:l.length≤M.length:=by
  have:=congrArg jD f;rw[ep]at this;omega
 refine bg Jg ?_;simp only[go_sem,Ag,Ak,Aj];refine bW (fun k F c=>∃m:Nat,rd 0 F=.slice b 0 l.length (.grown 1)∧rd 3 F=ai (m:Int)∧W.trim (l.take m)=W.trim l∧k=m∧m≤l.length∧c=H) l.length ⟨l.length,?_,?_,by rw[cq (aR _)],rfl,aR _,rfl⟩ ?_
 iterate 2 simp only[go_sem]
 rintro m F c ⟨_,d,e,a,rfl,w,rfl⟩;unfold Ai;cases m with
 |zero=>
  simp(disch:=omega)only[go_sem,tH,d,e,df,acD];refine⟨?_,trivial⟩;rw[←a];rfl
 |succ i=>
  have j:(((i+1:Nat):Int)-1).toNat=i:=aa;have q:M.getD i 0=l.getD i 0:=by
   rw[←f];simp only[c_];rw[List.getElem?_take,ay aa]
  have s:l.take (i+1)=l.take i++[l.getD i 0]:=by
   rw[jZ aa,c_,cH aa];rfl
  have o:hH false 1 [.ptr b i] c=some (az ((l.getD i 0:Nat):Int)):=by rw[q5 p,dB aa,q]
  rw[s]at a;by_cases h:l.getD i 0=0
  ·simp(disch:=omega)only[go_sem,Ah,d,e,dt,aQ,cR,j,o];refine⟨i,aa,i,?_,?_,?_,rfl,aa,rfl⟩
   ·simp only[go_sem,d]
   ·simp only[go_sem];congr 1;omega
   ·rw[h,W.w4]at a;exact a
  ·simp(disch:=omega)only[go_sem,tH,d,e,dt,df,aQ,cR,j,o,acD];rw[W.wY _ _ h]at a;rw[←a];simp;omega
theorem ag2{H:ag}{bytes n:Nat}{cs:List V}(b:H.get g=.cells [] 0)(m:0<n)(c:cs.length=n*a)(h:n≤1073741824∧bytes≤1024)
 (i:f (put o j (.slice H.next 0 n (.grown a))) ((H.push (.cells cs (H.next+1))).push (.b5 H.next H.next))):gT j f o (ga a bytes [.slice g 0 0 (.known 0),.row n cs] H):=by
 have d:ec H a n (.row n cs)=some cs:=jH c;have e:ga a bytes [.slice g 0 0 (.known 0),.row n cs] H=l7 H a n cs:=by
  show av (some n) (fun n=>av (ec H a n (.row _ cs)) fun k=>kL a bytes (.slice g 0 0 (.known 0)) n k H)=_;show av (ec H a n (.row n cs)) _=_;rw[d];show Bool.casesOn (motive:=fun _=>Option (V×ag)) (fy n) (bq (ju (0+n) bytes) (Bool.casesOn (motive:=fun _=>Option (V×ag)) (b8 (0+n) 0) (av (H.dw g 0 (0*a)) fun l=>l7 H a (0+n) (ez l cs)) (av (H.e5 g (0+0*a) cs) fun H=>some (V.slice g 0 (0+n) (.known 0),H)))) (some (V.slice g 0 0 (.known 0),H))=_;rw[su aa,p0 ⟨aa,cI (jO (aa:0+n≤1073741824) h.2) aj⟩,show b8 (0+n) 0=false from by
   cases n with
   |zero=>omega
   |succ n=>rw[fB];rfl,gj b]
  simp only[jE,eY,BR,yz,B4,BL,fB]
 rw[e];exact i
theorem xZ(l:List Nat)(h:0<l.length∧l.length≤1000000)(H:ag):dN 248 [bz l] H fun v a=>v=.slice (H.next+1) 0 l.length (.grown 1)∧dh a (H.next+1) (H.next+2) (aT l)∧a.next=H.next+3∧∀y,y<H.next→a.get y=H.get y:=by
 refine bg aak ?_;have b:nX false (.slice 166) [bz l,.ak]=some (.val aq):=by
  obtain⟨n,c⟩:∃n,l.length=n+1:=⟨l.length-1,aa⟩;unfold bz;rw[c];rfl
 simp only[go_sem,FV,FW,RZ,b];refine ag2 (n:=l.length) (cs:=aT l) (by simp only[go_sem]) h.1 (by rw[eD,dQ]) ⟨aa,aj⟩ ?_;simp only[go_sem];refine⟨trivial,⟨?_,⟨H.next+1,?_,aR _⟩,aa⟩,trivial,fun y d=>?_⟩
 ·simp(disch:=omega)only[go_sem,au]
 ·simp(disch:=omega)only[go_sem]
 ·simp(disch:=omega)only[go_sem,au]
theorem acV(m n:Nat)(h:n≤m)(t:(ax m).length<100000):bA 240 [bz (ax m),bz (ax n)] (bz (ax (m-n))):=by
 refine e3 (.cons (dA _) (.cons (dA _) .nil)) (bg ali ?_);have l:=kN h;by_cases r:(ax n).length=0
 ·have i:n=0:=m6 fun h=>by have:=(iE n).2 h;omega
  simp(disch:=omega)only[go_sem,FQ,FR,dt];exact g8 (by rw[i];rfl) (dA _)
 ·simp(disch:=omega)only[go_sem,FQ,FR,RF,df];refine(xZ (ax m) ⟨aa,aa⟩ _).mono ?_;rintro _ o ⟨rfl,g,s,_⟩;simp only[go_sem,RE];refine(aqQ (ax m) (ax n) _ (fV m) (fV n) l aa rfl 6 7 _ _ g).mono ?_;rintro _ p ⟨c,k,b,e,a,d⟩;rw[fT,fT]at a;have j:k=0:=by
   have f:=W.gC e;rw[b]at f;cases k with
   |zero=>rfl
   |succ k=>rw[Nat.mul_succ]at a;omega
  rw[j,fe,cO]at a;simp only[go_sem,RD];refine(CO c c _ b (by rw[←b,cq (aR _)]) aa 6 7 _ d.lC).mono ?_;rintro _ q ⟨rfl,rfl⟩;simp only[go_sem];exact⟨_,p5 d.lC jJ rfl (CQ c).symm,dA _,by rw[kX e];congr 2;omega⟩
theorem oT{es:List Nat}{e:Nat}(h:d.length=a):(d++e::es).getD a 0=e:=by subst h;simp
theorem kW{L es:List Nat}{e v n:Nat}(h:L.length=n):(L++e::es).set n v=L++v::es:=by subst h;simp
theorem abx{P x z w V X Y:Nat}(h:V+P*g=X+Y*w)(b:z+x*w+g=a+18446744073709551616*I):V+P*a+P*18446744073709551616*I=X+P*z+(Y+P*x)*w:=by
 have e:=congrArg (P* ·) b;simp only[bU,←cg]at e;rw[cZ];omega
theorem wv{x y:Nat}(a:x<18446744073709551616)(b:y<18446744073709551616):x*y≤340282366920938463426481119284349108225:=
 jO (Nat.le_of_lt_succ a) (Nat.le_of_lt_succ b)
theorem adT(d a e f:List Nat)(w n:Nat)(S:W.aM a)(X:W.aM f)(G:w<18446744073709551616)(T:f.length=n)(ap:a.length=n)(Y:(d++a++e).length<1000000)(o b:Nat)(U:d.length=o)(c:Cap)(H:ag)(N:H.get b=.cells (aT (d++a++e)) 0):
 dN 300 [.slice b o n c,bz f,az (w:Int)] H fun v l=>∃ds k,v=az ((k:Nat):Int)∧k<18446744073709551616∧ds.length=n∧W.aM ds∧W.val ds+18446744073709551616^n*k=W.val a+W.val f*w∧d_ H l b (aT (d++ds++e)):=by
 refine bg alF ?_;simp(disch:=omega)only[go_sem,Tn,Tt,Ts]
 refine bW (fun k F l=>∃(ds:List Nat) (g:Nat),k=n-ds.length∧ds.length≤n∧rd 0 F=.slice b o n c∧rd 1 F=bz f∧rd 2 F=az (w:Int)∧rd 7 F=az (g:Int)∧rd 14 F=bz f∧rd 15 F=ai (n:Int)∧rd 16 F=ai (ds.length:Int)∧g<18446744073709551616∧W.aM ds∧
  W.val ds+18446744073709551616^ds.length*g=W.val (a.take ds.length)+W.val (f.take ds.length)*w∧d_ H l b (aT (d++ds++(a.drop ds.length++e)))) n ⟨[],0,rfl,ck _,?_,?_,?_,?_,?_,?_,?_,aa,W.aM.nil,by simp[W.val],?_⟩ ?_
 iterate 3 simp only[go_sem]
 ·simp only[go_sem];rfl
 iterate 2 simp only[go_sem,T]
 ·simp only[go_sem];rfl
 ·have:=d_.refl N;simpa using this
 rintro k F l ⟨ds,g,rfl,hd,A,M,C,D,B,t,u,O,J,y,i⟩;unfold Tq;simp only[bt]at Y;by_cases hi:ds.length<n
 ·have I:=X.getD ds.length;have am:=S.getD ds.length;have P:=pZ (l:=a) (i:=ds.length) aa;rw[P,fm]at i;have Q:=i.at;have m:(d++ds).length=o+ds.length:=by rw[bt,U]
  have ae:o+ds.length<(aT (d++ds++a.getD ds.length 0::(a.drop (ds.length+1)++e))).length:=by rw[eD,bt,m];simp
  have al:o+ds.length<(d++ds++a.getD ds.length 0::(a.drop (ds.length+1)++e)).length:=by rw[bt,m];simp
  have R:=oT (es:=a.drop (ds.length+1)++e) (e:=a.getD ds.length 0) m;have V:=wv I G;obtain⟨p,z⟩:∃p,p=f.getD ds.length 0*w:=⟨_,rfl⟩;have E:=BW _ _ I G;rw[←z]at V E;obtain⟨h,K⟩:∃s,s=p%18446744073709551616+g:=⟨_,rfl⟩;obtain⟨j,L⟩:∃s,s=a.getD ds.length 0+h%18446744073709551616:=⟨_,rfl⟩;have q:=tn (a:=p%18446744073709551616) (b:=g) (c:=0) aa;rw[cO,←K]at q;have r:=tn (a:=a.getD ds.length 0) (b:=h%18446744073709551616) (c:=0) aa;rw[cO,←L]at r;rw[jn]at q r;have Z:aG .u64 (((p/18446744073709551616:Nat):Int)+((h/18446744073709551616:Nat):Int))=((p/18446744073709551616+h/18446744073709551616:Nat):Int):=by rw[cj _ aa];omega
  have w2:aG .u64 (((p/18446744073709551616+h/18446744073709551616:Nat):Int)+((j/18446744073709551616:Nat):Int))=((p/18446744073709551616+h/18446744073709551616+j/18446744073709551616:Nat):Int):=by rw[cj _ aa];omega
  simp(disch:=omega)only[go_sem,Gk,Tp,C,B,t,u,dt,gw,bN,dB];refine use E ?_;simp(disch:=omega)only[go_sem,To,A,D,u,cR,bN,Q,dB,R,q,r,Z,w2,gk,jI,kW m,aQ];refine⟨n-(ds.length+1),aa,ds++[j%18446744073709551616],p/18446744073709551616+h/18446744073709551616+j/18446744073709551616,aJ,by simp;omega,?_,?_,?_,?_,?_,?_,?_,aa,J.app (.mk aa W.aM.nil),?_,?_⟩
  iterate 6 simp only[go_sem,A,M,C,B,t]
  ·simp only[go_sem,bt,gm];rfl
  ·rw[W.fl];simp only[bt,gm,c3,W.val,fe,cO];rw[jX aa,jX aa];exact abx y (by rw[←z];omega)
  ·have:=i.set (aT (d++(ds++[j%18446744073709551616])++(a.drop (ds.length+1)++e)));simpa using this
 ·have x:ds.length=n:=aa;simp(disch:=omega)only[go_sem,Gk,Tr,D,t,u,df];rw[x,cq aa,cq aa]at y;rw[x,i_ aa,eM]at i;exact⟨ds,g,rfl,O,x,J,y,i⟩
theorem sF(n:Nat):W.aM (br n 0):=fun x a=>by
 rw[List.mem_replicate]at a;rw[a.2];decide
theorem rE(n:Nat):W.val (br n 0)=0:=by
 induction n with
 |zero=>rfl
 |succ n a=>rw[oA];simp[W.val,a]
theorem arB{ds x b:List Nat}(l:d.length=a+g)(f:ds.length=g)(j:W.val d=W.val x*W.val (b.take a))(i:a<b.length)(k:b.getD a 0=I)(h:W.val ds+18446744073709551616^g*z=W.val (d.drop a)+W.val x*I):
 W.val (d.take a++ds++[z])=W.val x*W.val (b.take (a+1)):=by
 have c:=W.oh d a aa;rw[W.fl,W.fl,bt,gK aa,f,jX i,k,bU,←j,c];simp only[W.val,fe,cO];have e:=congrArg (18446744073709551616^a* ·) h;simp only[bU]at e;rw[fX,cg,jq,e,k5 (W.val x),jq]
theorem aa0(x a:List Nat)(T:W.aM x)(U:W.aM a)(lx:x.length<40)(ly:a.length<40)(l0:0<x.length)(b:Nat)(F:Fr)(H:ag)(R:X→Fr→ag→Prop)(w:rd 0 F=bz x)(C:rd 6 F=.slice b 0 (x.length+a.length) (.known (x.length+a.length)))(y:rd 53 F=bz a)(z:rd 54 F=ai (a.length:Int))(B:rd 55 F=ai 0)
 (D:H.get b=.cells (aT (br (x.length+a.length) 0)) 0)
 (E:∀m n L,rd 6 m=.slice b 0 (x.length+a.length) (.known (x.length+a.length))→W.aM L→L.length=x.length+a.length→W.val L=W.val x*W.val a→d_ H n b (aT L)→R (.exit 1) m n):bT (.loop FL) R F H:=by
 refine bW (fun k c o=>∃(j:Nat) (A:List Nat),k=a.length-j∧j≤a.length∧rd 0 c=bz x∧rd 6 c=.slice b 0 (x.length+a.length) (.known (x.length+a.length))∧rd 53 c=bz a∧rd 54 c=ai (a.length:Int)∧rd 55 c=ai (j:Int)∧W.aM A∧A.length=j+x.length∧W.val A=W.val x*W.val (a.take j)∧
  d_ H o b (aT (A++br (a.length-j) 0))) a.length ⟨0,br x.length 0,rfl,ck _,w,C,y,z,B,sF _,aJ,by rw[rE];simp[W.val],?_⟩ ?_
 ·have:=d_.refl D;rw[←List.replicate_append_replicate]at this;exact this
 rintro k c o ⟨j,A,rfl,hj,p,g,q,e,f,l,K,i,d⟩;unfold FL;by_cases I:j<a.length
 ·have V:=U.getD j;obtain⟨r,M⟩:∃r,a.length-j=r+1:=⟨a.length-j-1,aa⟩;rw[M,oA]at d;have N:slice3 (jA 1) true true false [.slice b 0 (x.length+a.length) (.known (x.length+a.length)),ai (j:Int),ai ((j:Int)+(x.length:Int))]=some (.val (.slice b j x.length (.known (x.length+a.length-j)))):=by
   rw[Cz aa];congr 3<;>omega
  have S:aG .i64 ((j:Int)+(x.length:Int))=(j:Int)+(x.length:Int):=aQ _ aa;simp(disch:=omega)only[go_sem,FK,Rx,p,g,q,e,f,dt,gw,bN,dB,S,N];have O:A++0::br r 0=A.take j++A.drop j++0::br r 0:=by rw[oC]
  have u:=d.at;rw[O]at u;refine(adT (A.take j) (A.drop j) (0::br r 0) x (a.getD j 0) _ (l.drop _) T V rfl (by rw[gF];omega) (by simp;omega) j b (gK aa) _ _ u).mono ?_;rintro _ Z ⟨ds,k,rfl,J,t,Y,Q,s⟩;have G:=s.at;have h:(A.take j++ds).length=j+x.length:=by rw[bt,gK aa,t]
  have ac:j+x.length<(aT (A.take j++ds++0::br r 0)).length:=by rw[eD,bt,h];simp
  have P:((j:Int)+(x.length:Int)).toNat=j+x.length:=aa;simp(disch:=omega)only[go_sem,Rw,f,cR,P,G,gk,jI,kW h,aQ];refine⟨r,aa,j+1,A.take j++ds++[k],aa,aa,?_,?_,?_,?_,?_,((l.take _).app Y).app (.mk J W.aM.nil),by rw[bt,h];simp;omega,arB K t i I rfl Q,?_⟩
  iterate 4 simp only[go_sem,p,g,q,e]
  ·simp only[go_sem];rfl
  ·have:=(d.trans s).set (aT (A.take j++ds++k::br r 0));rw[(aa:a.length-(j+1)=r)];simpa using this
 ·have v:j=a.length:=aa;simp(disch:=omega)only[go_sem,FK,e,f,df];rw[v,cq (aR _)]at i;rw[v,lV,oB,fA]at d;refine E _ _ A ?_ l aa i d;simp only[go_sem,g]
theorem anD(m n:Nat)(K:(ax m).length<40)(M:(ax n).length<40):bA 237 [bz (ax m),bz (ax n)] (bz (ax (m*n))):=by
 refine e3 (.cons (dA _) (.cons (dA _) .nil)) (bg alf ?_)
 have H:∀(a b:Nat) (F:Fr),(ax b).length≤(ax a).length→(ax a).length<40→a*b=m*n→rd 0 F=bz (ax a)→rd 1 F=bz (ax b)→
  bT vD (gl [.tmp 4] fun z i=>∃v,cr i (ag.zero i.next) z v∧bZ v∧v=bz (ax (m*n))) F (ag.zero 5):=by
  intro a b F R E r f q;have G:(ax b).length<40:=aa;have s:aG .i64 ((((ax a).length:Nat):Int)+1)=(((ax a).length+1:Nat):Int):=by rw[aQ _ aa];omega
  have t:aG .i64 ((((ax a).length+1)/2:Nat):Int)=((((ax a).length+1)/2:Nat):Int):=by rw[aQ _ aa]
  have N:¬(2:Int)=0:=aj;have D:(((ax a).length:Int)+((ax b).length:Int)).toNat=(ax a).length+(ax b).length:=aa;have u:kq (((ax a).length+1:Nat):Int) 2=((((ax a).length+1)/2:Nat):Int):=rfl;by_cases O:(ax b).length=0
  ·have J:b=0:=m6 fun h=>by have:=(iE b).2 h;omega
   simp(disch:=omega)only[go_sem,vD,xP,f,q,dt,s,iC,u,t];rw[←r,J,fe,js];exact⟨_,.fQ,.row 0 .nil,rfl⟩
  ·by_cases k:(ax b).length=1∧(ax b).getD 0 0=1
   ·have C:b=1:=by
     rw[←fT b];obtain⟨k,w⟩:=k
     match P:ax b,k,w with
     |[x],_,w=>have:x=1:=w;simp[W.val,this]
    have y:dY none 1 [bz (ax b),ai 0]=some (.val (.dm (aT (ax b)) 0)):=gw ⟨aj,aa⟩;simp(disch:=omega)only[go_sem,vD,xP,f,q,dt,df,s,iC,u,t,y,dB,k.2]
    first
     |exact g8 (by rw[←r,C,dQ]) (dA _)
     |(simp only[go_sem,decide_true,f];exact g8 (by rw[←r,C,dQ]) (dA _))
   ·have B:∀(c:Fr) (d:ag) (L:List Nat),rd 6 c=.slice 5 0 ((ax a).length+(ax b).length) (.known ((ax a).length+(ax b).length))→W.aM L→L.length=(ax a).length+(ax b).length→W.val L=W.val (ax a)*W.val (ax b)→∀(A:ag),d_ A d 5 (aT L)→
     bT (.seq (.aH [ex 77 (mv (rd 6)),ex 78 (bF 252 [(rd 77)]),ex 4 (fq (rd 78))]) .ret) (gl [.tmp 4] fun z i=>∃v,cr i (ag.zero i.next) z v∧bZ v∧v=bz (ax (m*n))) c d:=by
     intro c d L j p l o A g;simp only[go_sem,j];refine iL (pz L aa) g.at ⟨0,_,_,dH.2 rfl⟩ (.cons (oS g.at (by rw[ag.a_,ay rfl]) l) .nil) ?_;simp only[go_sem];exact g8 (by rw[kX p,o,fT,fT,r]) (dA _)
    by_cases I:(ax b).length=1
    ·have y:dY none 1 [bz (ax b),ai 0]=some (.val (.dm (aT (ax b)) 0)):=gw ⟨aj,aa⟩;have Q:¬(((ax b).getD 0 0:Nat):Int)=1:=fun e=>k ⟨I,aa⟩
     simp(disch:=omega)only[go_sem,vD,xP,f,q,dt,df,s,iC,u,t,y,dB,aQ,iH,D,nC];refine aa0 (ax a) (ax b) (fV a) (fV b) E G aa 5 _ _ _ ?_ ?_ ?_ ?_ ?_ ?_ ?_
     iterate 6 simp only[go_sem,f]
     ·intro c d L j p l o g;rw[fu];exact B c d L j p l o _ g
    ·simp(disch:=omega)only[go_sem,vD,xP,f,q,dt,df,s,iC,u,t,aQ,iH,D,nC];refine aa0 (ax a) (ax b) (fV a) (fV b) E G aa 5 _ _ _ ?_ ?_ ?_ ?_ ?_ ?_ ?_
     iterate 6 simp only[go_sem,f]
     ·intro c d L j p l o g;rw[fu];exact B c d L j p l o _ g
 by_cases h:(ax m).length<(ax n).length
 ·simp(disch:=omega)only[go_sem,FI,FJ,dt];refine H n m _ aa M (b3 _ _) ?_ ?_
  iterate 2 simp only[go_sem]
 ·simp(disch:=omega)only[go_sem,FI,FJ,df];refine H m n _ aa K rfl ?_ ?_
  iterate 2 simp only[go_sem]
theorem wz{x y:Nat}(h:x<18446744073709551616∧y<18446744073709551616):gM (gZ .or) [az (x:Int),az (y:Int)]=some (.val (az ((x|||y:Nat):Int))):=by
 show some (bx.val (az (mH (ob .u64) (dK .u64) (Nat.lor (gA (dK .u64) (x:Int)) (gA (dK .u64) (y:Int))))))=_;rw[show gA (dK .u64) (x:Int)=x from jr h.1,show gA (dK .u64) (y:Int)=y from jr h.2];rfl
theorem q_{s:Nat}(a:s≤64):(18446744073709551616:Nat)=2^(64-s)*2^s:=by rw[←fX,(aa:64-s+s=64)]
theorem JN{x s:Nat}(d:s≤64)(c:a<2^s):a|||(x*2^s)%18446744073709551616=a+(x*2^s)%18446744073709551616:=by
 have b:(x*2^s)%18446744073709551616=(x%2^(64-s))<<<s:=by
  rw[q_ d,qJ,Nat.shiftLeft_eq]
 rw[b,Nat.or_comm,←Nat.shiftLeft_add_eq_or_of_lt c,iy]
theorem Dr{x s:Nat}(f:s≤64)(g:a<2^s):a+(x*2^s)%18446744073709551616<18446744073709551616:=by
 have e:=q_ f;have b:(x*2^s)%18446744073709551616=(x%2^(64-s))*2^s:=by
  rw[e,qJ]
 have c:x%2^(64-s)+1≤2^(64-s):=eK _ (e8 aj);have d:=dz (2^s) c;rw[cZ,fM,←e]at d;rw[b];omega
theorem acw{w:Nat}(b:a≤64):w/2^(64-a)=w*2^a/18446744073709551616:=by
 conv=>rhs;rw[q_ b]
 rw[Nat.mul_div_mul_right _ _ (e8 aj)]
theorem acq{s:Nat}(b:a<18446744073709551616):a*2^s/18446744073709551616<2^s:=
 s9 (ng b (e8 aj))
theorem ap_{v:Nat}{X:Nat}(b:d.length=a)(c:W.val (d++[g])=X):W.val (d++[g+v%18446744073709551616]++[v/18446744073709551616])=X+18446744073709551616^a*v:=by
 rw[←c,W.fl,W.fl,W.fl,bt,b];simp only[W.val,fe,cO,gm,c3];have e:18446744073709551616^a*v=18446744073709551616^a*(v%18446744073709551616)+18446744073709551616^a*18446744073709551616*(v/18446744073709551616):=by
  rw[cg,←bU,Nat.mod_add_div]
 rw[bU];omega
theorem wM(n s:Nat)(U:s≤63)(ln:(ax n).length<100000):bA 358 [bz (ax n),az (s:Int)] (bz (ax (n*2^s))):=by
 refine e3 (.cons (dA _) (.cons (.int _ _) .nil)) (bg alU ?_);have F:=fV n;have E:=fT n;by_cases H:(ax n).length=0
 ·have L:n=0:=m6 fun h=>by have:=(iE n).2 h;omega
  simp(disch:=omega)only[go_sem,AL,AM,dt];exact g8 (by rw[L,jE]) (dA _)
 ·by_cases V:s=0
  ·subst V;simp(disch:=omega)only[go_sem,AL,AM,df,jn,decide_true];exact g8 (by rw[mF,dQ]) (dA _)
  ·have a1:¬(64:Int)=0:=aj;have al:kq (s:Int) 64=0:=by
    show(((s/64:Nat)):Int)=0;omega
   have am:lP (s:Int) 64=(s:Int):=by
    show(((s%64:Nat)):Int)=_;omega
   have w0:aG .u64 (0:Int)=0:=cj _ aj;have w1:aG .i64 (0:Int)=0:=aQ _ aj;have C:((((ax n).length:Nat):Int)+1).toNat=(ax n).length+1:=aa;simp(disch:=omega)only[go_sem,AL,AM,Vm,Vl,Vk,df,iC,k_,al,am,w0,w1,aQ,Int.add_zero,iH,C,nC];generalize ax n=x at F E H ln C⊢
   have R:dO s (gq .u64)=s:=kf (aa:s≤64);have S:dO (64-s) (gq .u64)=64-s:=kf (aa:64-s≤64);have K:aG .u64 ((64:Int)-(s:Int))=((64-s:Nat):Int):=by rw[cj _ aa];omega
   refine bW (fun k b l=>∃(i t:Nat) (A:List Nat),k=x.length-i∧i≤x.length∧rd 5 b=ai 0∧rd 6 b=az (s:Int)∧rd 7 b=.slice 5 0 (x.length+1) (.known (x.length+1))∧rd 29 b=bz x∧rd 30 b=ai (x.length:Int)∧rd 31 b=ai (i:Int)∧W.aM A∧A.length=i∧t<2^s∧W.val (A++[t])=W.val (x.take i)*2^s∧
    d_ ((ag.zero 5).push (.cells (aT (br (x.length+1) 0)) 0)) l 5 (aT (A++t::br (x.length-i) 0))) x.length ⟨0,0,[],rfl,ck _,?_,?_,?_,?_,?_,?_,W.aM.nil,rfl,e8 aj,by simp[W.val],d_.refl ?_⟩ ?_
   iterate 5 simp only[go_sem]
   ·simp only[go_sem];rfl
   ·simp only[go_sem];rfl
   rintro k b l ⟨i,t,A,rfl,hi,p,q,e,m,d,o,G,a,D,j,c⟩;unfold Vi;have a0:2^s≤2^63:=fN aj U;have aw:(2:Nat)^63=9223372036854775808:=aj;by_cases P:i<x.length
   ·have ac:=F.getD i;obtain⟨r,T⟩:∃r,x.length-i=r+1:=⟨x.length-i-1,aa⟩;rw[T,oA (n:=r)]at c;have M:=c.at;have w:=JN (x:=x.getD i 0) (aa:s≤64) D;have u:=Dr (x:=x.getD i 0) (aa:s≤64) D;have z:=acw (w:=x.getD i 0) (aa:s≤64);have B:=acq (s:=s) ac;have y:((x.getD i 0:Nat):Int)*((2^s:Nat):Int)=((x.getD i 0*2^s:Nat):Int):=by rw[e7]
    have g:=ap_ (v:=x.getD i 0*2^s) a j;have Z:W.val (x.take i)*2^s+18446744073709551616^i*(x.getD i 0*2^s)=W.val (x.take (i+1))*2^s:=by rw[jX P,cZ,cg]
    rw[Z]at g;generalize x.getD i 0*2^s=v at w u z B y g
    have ab:aG .u64 ((v:Nat):Int)=((v%18446744073709551616:Nat):Int):=by rw[gE,Int.natCast_emod];rfl
    have a3:i<(aT (A++t::0::br r 0)).length:=by rw[eD,bt,a];simp
    have a4:i<(A++t::0::br r 0).length:=by rw[bt,a];simp
    have a5:i+1<(aT (A++(t+v%18446744073709551616)::0::br r 0)).length:=by rw[eD,bt,a];simp
    have N:=oT (es:=0::br r 0) (e:=t) a;have X:=kW (es:=0::br r 0) (e:=t) (v:=t+v%18446744073709551616) a;have Y:(A++(t+v%18446744073709551616)::0::br r 0).set (i+1) (v/18446744073709551616)=A++(t+v%18446744073709551616)::(v/18446744073709551616)::br r 0:=by
     have:=kW (L:=A++[t+v%18446744073709551616]) (es:=br r 0) (e:=0) (v:=v/18446744073709551616) (n:=i+1) (by rw[bt,a];rfl);simpa using this
    have O:((i:Int)+1).toNat=i+1:=aa;have a6:v/18446744073709551616<18446744073709551616:=aa;simp(disch:=omega)only[go_sem,GX,Vh,Vg,p,q,e,m,d,o,dt,gw,cR,bN,dB,aQ,Int.add_zero,R,S,K,y,ab,lI,z,M,N,wz,w,gk,jI,X,O,Y];refine⟨r,aa,i+1,v/18446744073709551616,A++[t+v%18446744073709551616],aa,aa,?_,?_,?_,?_,?_,?_,G.app (.mk u W.aM.nil),by rw[bt,a];rfl,B,g,?_⟩
    iterate 5 simp only[go_sem,p,q,e,m,d]
    ·simp only[go_sem];rfl
    ·have I:=c.set (aT (A++(t+v%18446744073709551616)::0::br r 0));have J:=I.set (aT (A++(t+v%18446744073709551616)::(v/18446744073709551616)::br r 0));rw[(aa:x.length-(i+1)=r)];simpa using J
   ·have f:i=x.length:=aa;simp(disch:=omega)only[go_sem,GX,Vj,e,d,o,df];rw[f,lV,oB]at c;rw[f,cq (aR _),E]at j;have ae:W.aM (A++[t]):=G.app (.mk aa W.aM.nil);have Q:(A++[t]).length=x.length+1:=by rw[bt,a,f];rfl
    refine iL (pz (A++[t]) aa) c.at ⟨0,_,_,dH.2 rfl⟩ (.cons (oS c.at (by rw[ag.a_,ay rfl]) Q) .nil) ?_;simp only[go_sem];exact g8 (by rw[kX ae,j]) (dA _)
theorem acr{s e:Nat}(a:s≤64):(e*2^(64-s))%18446744073709551616=(e%2^s)*2^(64-s):=by
 have h:(18446744073709551616:Nat)=2^s*2^(64-s):=by rw[←fX,(aa:s+(64-s)=64)]
 rw[h,qJ]
theorem Iv{s d:Nat}(b:s≤64)(a:d<18446744073709551616):d/2^s<2^(64-s):=by
 refine s9 ?_;rw[←fX,(aa:s+(64-s)=64)];exact a
theorem uQ(h:a<d.length):d.take (a+1)=d.take a++[d.getD a 0]:=by
 rw[jZ h,c_,cH h];rfl
theorem aqc(n s:Nat)(G:s≤63)(ln:(ax n).length<100000):bA 363 [bz (ax n),az (s:Int)] (bz (ax (n/2^s))):=by
 refine e3 (.cons (dA _) (.cons (.int _ _) .nil)) (bg Ji ?_);have m:=fV n;have I:=fT n;have a2:¬(64:Int)=0:=aj;have L:kq (s:Int) 64=0:=by
  show(((s/64:Nat)):Int)=0;omega
 have a0:lP (s:Int) 64=(s:Int):=by
  show(((s%64:Nat)):Int)=_;omega
 have M:aG .u64 (0:Int)=0:=cj _ aj;have w1:aG .i64 (0:Int)=0:=aQ _ aj;have N:aG .u64 (((ax n).length:Nat):Int)=(((ax n).length:Nat):Int):=cj _ aa;by_cases O:(ax n).length=0
 ·have R:n=0:=m6 fun h=>by have:=(iE n).2 h;omega
  simp(disch:=omega)only[go_sem,xR,xU,iC,L,M,N,df];rw[R,Nat.zero_div,js];exact⟨_,.fQ,.row 0 .nil,rfl⟩
 ·have ht:((((ax n).length:Nat):Int)-0).toNat=(ax n).length:=aa;simp(disch:=omega)only[go_sem,xR,xU,G6,G5,G4,dt,iC,k_,L,a0,M,w1,N,aQ,Int.sub_zero,bN,iH,nC];generalize ax n=x at m I O ln⊢
  obtain⟨y,f⟩:∃y,y=W.shr s x:=⟨_,rfl⟩;have am:y.length=x.length:=by rw[f,W.rA]
  have ar:W.val y=n/2^s:=by rw[f,W.wO G,I]
  have ap:W.aM y:=by rw[f];exact W.uL G m
  have al:∀i,i<x.length→y.getD i 0=x.getD i 0/2^s+(x.getD (i+1) 0%2^s)*2^(64-s):=fun i C=>by rw[f];exact W.wN C
  clear f;have E:dO s (gq .u64)=s:=kf (aa:s≤64);have Z:dO (64-s) (gq .u64)=64-s:=kf (aa:64-s≤64);have Q:aG .u64 ((64:Int)-(s:Int))=((64-s:Nat):Int):=by rw[cj _ aa];omega
  refine bW (fun k a z=>∃i:Nat,k=x.length-i∧i≤x.length∧rd 0 a=bz x∧rd 5 a=ai 0∧rd 6 a=az (s:Int)∧rd 7 a=.slice 5 0 x.length (.known x.length)∧rd 26 a=ai (x.length:Int)∧rd 27 a=ai (i:Int)∧
   d_ ((ag.zero 5).push (.cells (aT (br x.length 0)) 0)) z 5 (aT (y.take i++br (x.length-i) 0))) x.length ⟨0,rfl,ck _,?_,?_,?_,?_,?_,?_,d_.refl ?_⟩ ?_
  iterate 5 simp only[go_sem]
  ·simp only[go_sem];rfl
  ·simp only[go_sem];rfl
  rintro k a z ⟨i,rfl,C,g,j,l,e,d,p,b⟩;unfold G2;by_cases X:i<x.length
  ·have K:=m.getD i;have a8:=m.getD (i+1);obtain⟨r,hr⟩:∃r,x.length-i=r+1:=⟨x.length-i-1,aa⟩;rw[hr,oA (n:=r)]at b;have c:(y.take i).length=i:=gK aa;have a4:i<(aT (y.take i++0::br r 0)).length:=by rw[eD,bt,c];simp
   have B:=b.at;have H:=fun v=>kW (es:=br r 0) (e:=0) (v:=v) c
   have q:=b.set (aT (y.take i++(x.getD i 0/2^s)::br r 0));have o:=al i X;have A:=Iv (s:=s) aa K;have U:((i:Int)+1).toNat=i+1:=aa;by_cases a3:i+1<x.length
   ·have w:=acr (e:=x.getD (i+1) 0) (s:=s) aa;have t:=JN (x:=x.getD (i+1) 0) (s:=64-s) aa A;have Y:=Dr (x:=x.getD (i+1) 0) (s:=64-s) aa A;rw[w,←o]at t Y;have ab:((x.getD (i+1) 0:Nat):Int)*((2^(64-s):Nat):Int)=((x.getD (i+1) 0*2^(64-s):Nat):Int):=by rw[e7]
    have J:aG .u64 ((x.getD (i+1) 0*2^(64-s):Nat):Int)=(((x.getD (i+1) 0%2^s)*2^(64-s):Nat):Int):=by
     rw[gE,←w,Int.natCast_emod];rfl
    have D:(x.getD (i+1) 0%2^s)*2^(64-s)<18446744073709551616:=by rw[←w];exact eK _ aj
    have S:x.getD i 0/2^s<18446744073709551616:=eH (g7 _ _) K;have a5:i<(aT (y.take i++(x.getD i 0/2^s)::br r 0)).length:=by rw[eD,bt,c];simp
    have a6:i<(y.take i++(x.getD i 0/2^s)::br r 0).length:=by rw[bt,c];simp
    have T:=oT (es:=br r 0) (e:=x.getD i 0/2^s) c;have ad:=kW (es:=br r 0) (e:=x.getD i 0/2^s) (v:=y.getD i 0) c;generalize(x.getD (i+1) 0%2^s)*2^(64-s)=u at t J D
    have F:=wz ⟨S,D⟩;rw[t]at F;simp(disch:=omega)only[go_sem,tI,xT,xS,g,j,l,e,d,p,dt,gw,cR,bN,U,dB,aQ,Int.add_zero,E,Z,Q,ab,J,lI,B,T,F,gk,jI,H,ad];refine⟨r,aa,i+1,aa,aa,?_,?_,?_,?_,?_,?_,?_⟩
    iterate 5 simp only[go_sem,g,j,l,e,d]
    ·simp only[go_sem];rfl
    ·have P:=q.set (aT (y.take i++y.getD i 0::br r 0));rw[(aa:x.length-(i+1)=r),uQ aa,eG];exact P
   ·have ae:x.getD (i+1) 0=0:=by rw[c_,m9 aa];rfl
    rw[ae,Nat.zero_mod,jE,cO]at o;rw[←o]at q;simp(disch:=omega)only[go_sem,tI,xT,xS,g,j,l,e,d,p,dt,df,gw,cR,bN,dB,aQ,Int.add_zero,E,lI,B,gk,jI,H,←o];refine⟨r,aa,i+1,aa,aa,?_,?_,?_,?_,?_,?_,?_⟩
    iterate 5 simp only[go_sem,g,j,l,e,d]
    ·simp only[go_sem];rfl
    ·rw[(aa:x.length-(i+1)=r),uQ aa,eG];exact q
  ·have V:i=x.length:=aa;simp(disch:=omega)only[go_sem,tI,G3,e,d,p,df];rw[V,lV,oB,fA,cq aa]at b;refine iL (pz y aa) b.at ⟨0,_,_,dH.2 rfl⟩ (.cons (oS b.at (by rw[ag.a_,ay rfl]) am) .nil) ?_;simp only[go_sem];exact g8 (by rw[kX ap,ar]) (dA _)
def eB(n:Nat):Nat:=if n=0 then 0 else n.log2+1
theorem aaH(n:Nat):n<2^eB n:=by
 unfold eB;split
 ·omega
 ·exact Nat.lt_log2_self
theorem aaG{n:Nat}(h:n≠0):2^(eB n-1)≤n:=by
 unfold eB;rw[au h,pL];exact Nat.log2_self_le h
theorem BO(h:a<2^g):eB a≤g:=by
 unfold eB;split
 ·omega
 ·rename_i b;exact(Nat.log2_lt b).2 h
theorem Jn{x k:Nat}(h:2^k≤x):eB x=k+eB (x/2^k):=by
 have a:0<2^k:=e8 aj;have b:x≠0:=aa;have c:x/2^k≠0:=by
  have:=(rO a).2 (aa:1*2^k≤x);omega
 unfold eB;rw[au b,au c];have e:=(Nat.log2_eq_iff c).1 rfl;have:x.log2=k+(x/2^k).log2:=by
  rw[Nat.log2_eq_iff b];refine⟨?_,?_⟩
  ·rw[fX,b3];exact(rO a).1 e.1
  ·rw[jq,fX,b3];exact(pM a).1 e.2
 omega
def Ky:List UInt8:=[0,1,2,2,3,3,3,3,4,4,4,4,4,4,4,4,5,5,5,5,5,5,5,5,5,5,5,5,5,5,5,5,6,6,6,6,6,6,6,6,6,6,6,6,6,6,6,6,6,6,6,6,6,6,6,6,6,6,6,6,6,6,6,6,7,7,7,7,7,7,7,7,7,7,7,7,7,7,7,7,7,7,7,7,7,7,7,7,7,7,7,7,7,7,7,7,7,7,7,7,7,7,7,7,7,7,7,7,7,7,7,7,7,7,7,7,7,7,7,7,7,7,7,7,7,7,7,7,8,8,8,8,8,8,8,8,8,8,8,8,8,8,8,8,8,8,8,8,8,8,8,8,8,8,8,8,8,8,8,8,8,8,8,8,8,8,8,8,8,8,8,8,8,8,8,8,8,8,8,8,8,8,8,8,8,8,8,8,8,8,8,8,8,8,8,8,8,8,8,8,8,8,8,8,8,8,8,8,8,8,8,8,8,8,8,8,8,8,8,8,8,8,8,8,8,8,8,8,8,8,8,8,8,8,8,8,8,8,8,8,8,8,8,8,8,8,8,8,8,8,8,8,8,8,8,8]
def QV(t:List UInt8):ah:=(.seq (.aH [ex 19 (mv (rd 2)),ex 20 (mv (rd 0)),ex 21 (j8 .u8 (rd 20)),ex 22 (g9 (kc (.str t)) (rd 21)),ex 23 (j8 .i64 (rd 22)),ex 24 (bi .add (rd 19) (rd 23)),ex 2 (fq (rd 24))])
 .ret)
theorem aeM:Fl=QV Ky:=rfl
theorem ajD(h:a<256):jS [.str Ky,.int .u8 (a:Int)]=some (.val (.int .u8 ((eB a:Nat):Int))):=by
 have b:∀a,a<256→Ky[a]? =some (gG (eB a))∧eB a<256:=by decide+kernel
 obtain⟨c,d⟩:=b a h;rw[nt (c:=gG (eB a)) aa (by rw[bN];exact c)];rw[show(gG (eB a)).toNat=eB a from by rw[UInt8.toNat_ofNat'];exact jr d]
theorem aaF(n:Nat)(o:n<18446744073709551616):bA 218 [az (n:Int)] (ai ((eB n:Nat):Int)):=by
 refine cT (.cons (.int _ _) .nil) (.int _ _) (bg ak5 ?_);have m:eB n≤64:=BO aa;have i:∀(x d:Nat) (F:Fr),x<256→eB n=d+eB x→rd 0 F=az (x:Int)→rd 2 F=ai (d:Int)→bT Fl (gl [.tmp 2] fun v _=>v=ai ((eB n:Nat):Int)) F (ag.zero 5):=by
  intro x d F g e a b;have l:aG .u8 ((x:Nat):Int)=(x:Int):=IL _ aa;rw[aeM];simp(disch:=omega)only[go_sem,QV,a,b,l,ajD,aQ];congr 1;omega
 have j:∀(x d:Nat) (F:Fr),x<65536→eB n=d+eB x→rd 0 F=az (x:Int)→rd 2 F=ai (d:Int)→bT zW (gl [.tmp 2] fun v _=>v=ai ((eB n:Nat):Int)) F (ag.zero 5):=by
  intro x d F g e a b;have c:dO 8 (gq .u64)=8:=rfl;by_cases h:x<256
  ·simp(disch:=omega)only[go_sem,zW,a,dt];refine i x d _ h e ?_ ?_
   iterate 2 simp only[go_sem,a,b]
  ·have f:=Jn (x:=x) (k:=8) aa;simp(disch:=omega)only[go_sem,zW,a,b,df,c,lI,aQ];refine i (x/2^8) (d+8) _ aa aa ?_ ?_
   ·simp only[go_sem]
   ·simp only[go_sem];rfl
 have k:∀(x d:Nat) (F:Fr),x<4294967296→eB n=d+eB x→rd 0 F=az (x:Int)→rd 2 F=ai (d:Int)→bT zX (gl [.tmp 2] fun v _=>v=ai ((eB n:Nat):Int)) F (ag.zero 5):=by
  intro x d F g e a b;have c:dO 16 (gq .u64)=16:=rfl;by_cases h:x<65536
  ·simp(disch:=omega)only[go_sem,zX,a,dt];refine j x d _ h e ?_ ?_
   iterate 2 simp only[go_sem,a,b]
  ·have f:=Jn (x:=x) (k:=16) aa;simp(disch:=omega)only[go_sem,zX,a,b,df,c,lI,aQ];refine j (x/2^16) (d+16) _ aa aa ?_ ?_
   ·simp only[go_sem]
   ·simp only[go_sem];rfl
 have c:dO 32 (gq .u64)=32:=rfl;by_cases h:n<4294967296
 ·simp(disch:=omega)only[go_sem,Fk,Fm,dt];refine k n 0 _ h aa ?_ ?_
  ·simp only[go_sem]
  ·simp only[go_sem];rfl
 ·have f:=Jn (x:=n) (k:=32) aa;simp(disch:=omega)only[go_sem,Fk,Fm,df,c,lI];refine k (n/2^32) 32 _ aa aa ?_ ?_
  ·simp only[go_sem]
  ·simp only[go_sem];rfl
theorem ym(n:Nat)(a:n<18446744073709551616):bA 308 [az (n:Int)] (ai ((64-eB n:Nat):Int)):=by
 refine cT (.cons (.int _ _) .nil) (.int _ _) (bg alL ?_);have b:eB n≤64:=BO aa;simp only[go_sem,Ub,Uc];refine use (aaF n a) ?_;simp(disch:=omega)only[go_sem,aQ];congr 1;omega
theorem yo{y:Nat}(b:y≠0)(h:y<18446744073709551616):64-eB y≤63∧9223372036854775808≤y*2^(64-eB y)∧y*2^(64-eB y)<18446744073709551616:=by
 have g:eB y≤64:=BO aa;have a:=aaH y;have c:=aaG b;have f:eB y≠0:=fun e=>by rw[e]at a;omega
 have d:0<2^(64-eB y):=e8 aj;refine⟨aa,?_,?_⟩
 ·have:=dz (2^(64-eB y)) c;rw[←fX,(aa:eB y-1+(64-eB y)=63)]at this;exact this
 ·have:=ng a d;rw[←fX,(aa:eB y+(64-eB y)=64)]at this;exact this
theorem YV{q r:Nat}(h:kH a g z I q r)(b:(a*4294967296+g)/(z*4294967296+I)<q):kH a g z I (q-1) (r+z):=by
 have e:q*z=(q-1)*z+z:=by
  cases q with
  |zero=>exact absurd b (pN _)
  |succ q=>rw[pL,cZ,fM]
 exact⟨by have:=h.top;omega,aa⟩
theorem agN(u d a b:Nat)(D:d<4294967296)(S:2147483648≤a∧a<4294967296)(a6:b<4294967296)(hu:u<a*4294967296+b)(F:Fr)(H:ag)(R:X→Fr→ag→Prop)(K:rd 15 F=az ((u/a:Nat):Int))(J:rd 16 F=az ((u%a:Nat):Int))(y:rd 9 F=az (a:Int))(I:rd 10 F=az (b:Int))(L:rd 13 F=az (d:Int))
 (C:∀x,(∀t,t<67→t≠15→t≠16→rd t x=rd t F)→rd 15 x=az (((u*4294967296+d)/(a*4294967296+b):Nat):Int)→R (.exit 0) x H):bT (.loop GI) R F H:=by
 have ap:u<a*4294967298:=by
  obtain⟨f,c⟩:=S;have e:a*4294967298=a*4294967296+a*2:=bU a 4294967296 2;rw[e];clear C K J y I L D c e;generalize a*4294967296=z at*
  omega
 have ac:u*4294967296+d<(a*4294967296+b)*4294967296:=aa;have ab:=s9 ac;obtain⟨Q,B⟩:∃Q,Q=(u*4294967296+d)/(a*4294967296+b):=⟨_,rfl⟩;rw[←B]at ab;have P:=s9 (m:=u) (n:=a) (k:=4294967298) ap;have al:u/a≤4294967297:=by
  generalize u/a=z at P
  omega
 refine bW (fun k i s=>∃r:Nat,(∀t,t<67→t≠15→t≠16→rd t i=rd t F)∧rd 15 i=az (k:Int)∧rd 16 i=az (r:Int)∧kH u d a b k r∧r<4294967296∧k≤4294967297∧s=H) (u/a) ⟨u%a,fun _ _ _ _=>rfl,K,J,kH.start D aa,oG (eK _ aa) S.2,al,rfl⟩ ?_;rintro q i s ⟨r,l,j,v,w,hr,hq,rfl⟩;have f9:=(l 9 aj aj aj).trans y;have M:=(l 10 aj aj aj).trans I;have N:=(l 13 aj aj aj).trans L;unfold GI;have W:aG .u64 ((r:Int)+(a:Int))=((r+a:Nat):Int):=by rw[cj _ aa];omega
 have ae:=w.ge;rw[←B]at ae;have G:kH u d a b (q-1) (r+a)→1≤q→∀o:Fr,(∀t,t<67→t≠15→t≠16→rd t o=rd t F)→rd 15 o=az (q:Int)→rd 16 o=az (r:Int)→bT AJ (e_ (nO (fun k i Z=>∃r:Nat,(∀t,t<67→t≠15→t≠16→rd t i=rd t F)∧rd 15 i=az (k:Int)∧rd 16 i=az (r:Int)∧kH u d a b k r∧r<4294967296∧k≤4294967297∧Z=s) q) R) o s:=by
  intro O P o A p7 qY;have dj:=(A 9 aj aj aj).trans y;have Y:aG .u64 ((q:Int)-1)=((q-1:Nat):Int):=by rw[cj _ aa];omega
  by_cases hb:4294967296≤r+a
  ·simp(disch:=omega)only[go_sem,AJ,GD,GC,GB,p7,qY,dj,Y,W,df];rw[Mm aj];have E:q-1=(u*4294967296+d)/(a*4294967296+b):=by
    refine O.done aa ?_;have f:(q-1)*b≤4294967296*4294967295:=jO aa aa;have c:4294967296*4294967296≤(r+a)*4294967296:=dz _ hb;omega
   refine C _ (fun t f c g=>?_) ?_
   ·simp(disch:=omega)only[cc];exact A t f c g
   ·simp only[go_sem,E]
  ·simp(disch:=omega)only[go_sem,AJ,GD,GC,GB,p7,qY,dj,Y,W,dt];refine⟨q-1,aa,r+a,fun t f c g=>?_,?_,?_,O,aa,aa,rfl⟩
   ·simp(disch:=omega)only[cc];exact A t f c g
   iterate 2 simp only[go_sem]
 by_cases a3:4294967296≤q
 ·simp(disch:=omega)only[go_sem,j,df];refine G (YV w (by rw[←B];omega)) aa _ (fun t f c g=>?_) ?_ ?_
  ·simp(disch:=omega)only[cc];exact l t f c g
  iterate 2 simp only[go_sem,j,v]
 ·have hm:q*b≤4294967295*4294967295:=jO aa aa;have T:aG .u64 ((q:Int)*(b:Int))=((q*b:Nat):Int):=by rw[←e7];exact cj _ aa
  have U:aG .u64 ((4294967296:Int)*(r:Int))=((r*4294967296:Nat):Int):=by rw[cj _ aa];omega
  have V:aG .u64 (((r*4294967296:Nat):Int)+(d:Int))=((r*4294967296+d:Nat):Int):=by rw[cj _ aa];omega
  by_cases p:r*4294967296+d<q*b
  ·have aw:(((r*4294967296+d:Nat):Int))<((q*b:Nat):Int):=qB.2 p;have am:1≤q:=by
    rcases qH q with e|e
    ·rw[e,jE]at p;omega
    ·exact e
   simp(disch:=omega)only[go_sem,j,v,M,N,dt,T,U,V];refine G (w.down D aa p) am _ (fun t f c g=>?_) ?_ ?_
   ·simp(disch:=omega)only[cc];exact l t f c g
   iterate 2 simp only[go_sem,j,v]
  ·have E:=w.done aa (ja p);have a1:¬(((r*4294967296+d:Nat):Int))<((q*b:Nat):Int):=fun h=>p (qB.1 h)
   simp(disch:=omega)only[go_sem,j,v,M,N,dt,df,T,U,V];refine C _ (fun t f c g=>?_) ?_
   ·simp(disch:=omega)only[cc];exact l t f c g
   ·simp only[go_sem,j,E]
theorem agO(u d a b:Nat)(D:d<4294967296)(S:2147483648≤a∧a<4294967296)(a6:b<4294967296)(hu:u<a*4294967296+b)(F:Fr)(H:ag)(R:X→Fr→ag→Prop)(K:rd 18 F=az ((u/a:Nat):Int))(J:rd 16 F=az ((u%a:Nat):Int))(y:rd 9 F=az (a:Int))(I:rd 10 F=az (b:Int))(L:rd 14 F=az (d:Int))
 (C:∀x,(∀t,t<67→t≠18→t≠16→rd t x=rd t F)→rd 18 x=az (((u*4294967296+d)/(a*4294967296+b):Nat):Int)→R (.exit 2) x H):bT (.loop GM) R F H:=by
 have ap:u<a*4294967298:=by
  obtain⟨f,c⟩:=S;have e:a*4294967298=a*4294967296+a*2:=bU a 4294967296 2;rw[e];clear C K J y I L D c e;generalize a*4294967296=z at*
  omega
 have ac:u*4294967296+d<(a*4294967296+b)*4294967296:=aa;have ab:=s9 ac;obtain⟨Q,B⟩:∃Q,Q=(u*4294967296+d)/(a*4294967296+b):=⟨_,rfl⟩;rw[←B]at ab;have P:=s9 (m:=u) (n:=a) (k:=4294967298) ap;have al:u/a≤4294967297:=by
  generalize u/a=z at P
  omega
 refine bW (fun k i s=>∃r:Nat,(∀t,t<67→t≠18→t≠16→rd t i=rd t F)∧rd 18 i=az (k:Int)∧rd 16 i=az (r:Int)∧kH u d a b k r∧r<4294967296∧k≤4294967297∧s=H) (u/a) ⟨u%a,fun _ _ _ _=>rfl,K,J,kH.start D aa,oG (eK _ aa) S.2,al,rfl⟩ ?_;rintro q i s ⟨r,l,j,v,w,hr,hq,rfl⟩;have f9:=(l 9 aj aj aj).trans y;have M:=(l 10 aj aj aj).trans I;have N:=(l 14 aj aj aj).trans L;unfold GM;have W:aG .u64 ((r:Int)+(a:Int))=((r+a:Nat):Int):=by rw[cj _ aa];omega
 have ae:=w.ge;rw[←B]at ae;have G:kH u d a b (q-1) (r+a)→1≤q→∀o:Fr,(∀t,t<67→t≠18→t≠16→rd t o=rd t F)→rd 18 o=az (q:Int)→rd 16 o=az (r:Int)→bT AK (e_ (nO (fun k i Z=>∃r:Nat,(∀t,t<67→t≠18→t≠16→rd t i=rd t F)∧rd 18 i=az (k:Int)∧rd 16 i=az (r:Int)∧kH u d a b k r∧r<4294967296∧k≤4294967297∧Z=s) q) R) o s:=by
  intro O P o A p7 qY;have dj:=(A 9 aj aj aj).trans y;have Y:aG .u64 ((q:Int)-1)=((q-1:Nat):Int):=by rw[cj _ aa];omega
  by_cases hb:4294967296≤r+a
  ·simp(disch:=omega)only[go_sem,AK,GL,GK,GJ,p7,qY,dj,Y,W,df];rw[Mm aj];have E:q-1=(u*4294967296+d)/(a*4294967296+b):=by
    refine O.done aa ?_;have f:(q-1)*b≤4294967296*4294967295:=jO aa aa;have c:4294967296*4294967296≤(r+a)*4294967296:=dz _ hb;omega
   refine C _ (fun t f c g=>?_) ?_
   ·simp(disch:=omega)only[cc];exact A t f c g
   ·simp only[go_sem,E]
  ·simp(disch:=omega)only[go_sem,AK,GL,GK,GJ,p7,qY,dj,Y,W,dt];refine⟨q-1,aa,r+a,fun t f c g=>?_,?_,?_,O,aa,aa,rfl⟩
   ·simp(disch:=omega)only[cc];exact A t f c g
   iterate 2 simp only[go_sem]
 by_cases a3:4294967296≤q
 ·simp(disch:=omega)only[go_sem,j,df];refine G (YV w (by rw[←B];omega)) aa _ (fun t f c g=>?_) ?_ ?_
  ·simp(disch:=omega)only[cc];exact l t f c g
  iterate 2 simp only[go_sem,j,v]
 ·have hm:q*b≤4294967295*4294967295:=jO aa aa;have T:aG .u64 ((q:Int)*(b:Int))=((q*b:Nat):Int):=by rw[←e7];exact cj _ aa
  have U:aG .u64 ((4294967296:Int)*(r:Int))=((r*4294967296:Nat):Int):=by rw[cj _ aa];omega
  have V:aG .u64 (((r*4294967296:Nat):Int)+(d:Int))=((r*4294967296+d:Nat):Int):=by rw[cj _ aa];omega
  by_cases p:r*4294967296+d<q*b
  ·have aw:(((r*4294967296+d:Nat):Int))<((q*b:Nat):Int):=qB.2 p;have am:1≤q:=by
    rcases qH q with e|e
    ·rw[e,jE]at p;omega
    ·exact e
   simp(disch:=omega)only[go_sem,j,v,M,N,dt,T,U,V];refine G (w.down D aa p) am _ (fun t f c g=>?_) ?_ ?_
   ·simp(disch:=omega)only[cc];exact l t f c g
   iterate 2 simp only[go_sem,j,v]
  ·have E:=w.done aa (ja p);have a1:¬(((r*4294967296+d:Nat):Int))<((q*b:Nat):Int):=fun h=>p (qB.1 h)
   simp(disch:=omega)only[go_sem,j,v,M,N,dt,df,T,U,V];refine C _ (fun t f c g=>?_) ?_
   ·simp(disch:=omega)only[cc];exact l t f c g
   ·simp only[go_sem,j,E]
theorem agJ{Y N:Nat}(cA:N=(g*a+z)*a+I)(c:0<Y):
 N/Y=(g*a+z)/Y*a+((g*a+z)%Y*a+I)/Y∧N%Y=((g*a+z)%Y*a+I)%Y:=by
 obtain⟨M,b⟩:∃M,M=g*a+z:=⟨_,rfl⟩;rw[←b]at cA⊢;have e:=iN M Y;have h:N=(M%Y*a+I)+Y*(M/Y*a):=by
  have d:M*a=Y*(M/Y*a)+M%Y*a:=by
   rw[←cg,←cZ,e]
  omega
 rw[h,Nat.add_mul_div_left _ _ c,Nat.add_mul_mod_self_left];exact⟨iy _ _,rfl⟩
theorem Be(b lo y:Nat)(hh:b<y)(M:lo<18446744073709551616)(C:y<18446744073709551616):bA 314 [az (b:Int),az (lo:Int),az (y:Int)] (.aK [az (((b*18446744073709551616+lo)/y:Nat):Int),az (((b*18446744073709551616+lo)%y:Nat):Int)]):=by
 by_cases h0:b=0
 ·subst h0;have:=agB lo y M ⟨aa,C⟩;rw[jE,fB];exact this
 refine cT (.cons (.int _ _) (.cons (.int _ _) (.cons (.int _ _) .nil))) (.aK (.cons (.int _ _) (.cons (.int _ _) .nil))) (bg aao ?_);obtain⟨W,a8,a9⟩:=yo (y:=y) aa C;have N:=ym y C;obtain⟨s,V⟩:∃s,s=64-eB y:=⟨_,rfl⟩;rw[←V]at W a8 a9 N;clear V;have F:0<2^s:=e8 aj;have du:2^s≤2^63:=fN aj W;have ds:(2:Nat)^63=9223372036854775808:=aj;have bo:((y:Nat):Int)*((2^s:Nat):Int)=((y*2^s:Nat):Int):=by rw[e7]
 have bi:((b:Nat):Int)*((2^s:Nat):Int)=((b*2^s:Nat):Int):=by rw[e7]
 have bj:((lo:Nat):Int)*((2^s:Nat):Int)=((lo*2^s:Nat):Int):=by rw[e7]
 have X:=acw (w:=lo) (aa:s≤64);have Z:=acq (s:=s) M;have r:b*2^s|||lo*2^s/18446744073709551616=b*2^s+lo*2^s/18446744073709551616:=by
  rw[←Nat.shiftLeft_eq b s,←Nat.shiftLeft_add_eq_or_of_lt Z]
 have d1:b*2^s+2^s≤y*2^s:=by
  have:=dz (2^s) hh;rw[pO]at this;exact this
 have K:(b*18446744073709551616+lo)*2^s/(y*2^s)=(b*18446744073709551616+lo)/y:=Nat.mul_div_mul_right _ _ F;have O:(b*18446744073709551616+lo)*2^s%(y*2^s)=(b*18446744073709551616+lo)%y*2^s:=qJ _ _ _;have G:(b*18446744073709551616+lo)*2^s=b*2^s*18446744073709551616+lo*2^s:=by rw[cZ,rR]
 rw[G]at K O;clear G;have R:dO s (gq .u64)=s:=kf (aa:s≤64);have be:dO (64-s) (gq .u64)=64-s:=kf (aa:64-s≤64);have a5:aG .u64 ((64:Int)-(s:Int))=((64-s:Nat):Int):=by rw[cj _ aa];omega
 have ba:aG .u64 ((s:Nat):Int)=(s:Int):=cj _ aa;generalize y*2^s=Y at*
 generalize lo*2^s=L at*
 generalize b*2^s=P at*
 obtain⟨t,ht⟩:∃t,t=L/18446744073709551616:=⟨_,rfl⟩;obtain⟨l,hl⟩:∃l,l=L%18446744073709551616:=⟨_,rfl⟩;have dv:L=t*18446744073709551616+l:=aa;rw[←ht]at X r Z;have bd:l<18446744073709551616:=aa;have cb:aG .u64 ((L:Nat):Int)=(l:Int):=by rw[gE];omega
 clear ht hl;obtain⟨u,hu⟩:∃u,u=P+t:=⟨_,rfl⟩;rw[←hu]at r;have d3:u<Y:=aa;have cA:P*18446744073709551616+L=(u*4294967296+l/4294967296)*4294967296+l%4294967296:=aa;obtain⟨i,k⟩:=agJ cA (aa:0<Y);rw[K]at i;rw[O]at k;obtain⟨a,e1⟩:∃v,v=Y/4294967296:=⟨_,rfl⟩;obtain⟨j,e0⟩:∃v,v=Y%4294967296:=⟨_,rfl⟩;have J:Y=a*4294967296+j:=aa;have ad:2147483648≤a∧a<4294967296:=aa;have ac:j<4294967296:=aa;have d8:¬((y:Nat):Int)=0:=aa;have d7:¬((b:Nat):Int)=0:=aa;have d2:((b:Nat):Int)<(y:Int):=aa;have S:=wz (x:=P) (y:=t) ⟨aa,aa⟩;rw[r]at S;simp(disch:=assumption)only[go_sem,GA,GH,GG,GF,UC,df,dt];refine use N ?_;have a':aG .u64 ((Y:Nat):Int)=(Y:Int):=cj _ aa;have a7:aG .u64 ((P:Nat):Int)=(P:Int):=cj _ aa;have dT:=iN u a;have b0:u/a*a≤u:=vg _ _;have bs:u/a<18446744073709551616:=eH (g7 _ _) aa;have dd:aG .u64 ((u/a:Nat):Int)=((u/a:Nat):Int):=cj _ ⟨s7 _,qB.2 bs⟩;have b2:u/a*a<18446744073709551616:=aa;have da:aG .u64 (((u/a:Nat):Int)*(a:Int))=((u/a*a:Nat):Int):=by rw[←e7];exact cj _ ⟨s7 _,qB.2 b2⟩
 have ws:aG .u64 (((u:Nat):Int)-((u/a*a:Nat):Int))=((u%a:Nat):Int):=by
  rw[b3]at b0⊢;generalize a*(u/a)=z at*
  generalize u%a=dq at*
  rw[cj _ aa];omega
 have d4:¬((a:Nat):Int)=0:=aa;have D:=zy (n:=Y) aa;rw[←e0]at D;have al:=zy bd;have c2:dO 32 (gq .u64)=32:=rfl;have ar:∀n:Nat,n/2^32=n/4294967296:=fun n=>by rw[(aj:(2:Nat)^32=4294967296)]
 simp(disch:=assumption)only[go_sem,UB,UA,Uz,Uy,Ux,Uw,Uv,Uu,Ut,Us,ba,R,bo,a',c2,ar,←e1,D,bi,a7,a5,be,lI,X,S,bj,cb,al,iC,qp,dd,da,ws];refine agN u (l/4294967296) a j aa ad ac aa _ _ _ ?_ ?_ ?_ ?_ ?_ ?_
 iterate 5 simp only[go_sem]
 intro e c p7;rw[←J]at p7;have E:rd 2 e=az (Y:Int):=(c 2 aj aj aj).trans (by simp only[go_sem]);have eV:rd 8 e=az (s:Int):=(c 8 aj aj aj).trans (by simp only[go_sem]);have dj:rd 9 e=az (a:Int):=(c 9 aj aj aj).trans (by simp only[go_sem]);have aw:rd 10 e=az (j:Int):=(c 10 aj aj aj).trans (by simp only[go_sem]);have sk:rd 11 e=az (u:Int):=(c 11 aj aj aj).trans (by simp only[go_sem]);have qX:rd 13 e=az ((l/4294967296:Nat):Int):=(c 13 aj aj aj).trans (by simp only[go_sem]);have p6:rd 14 e=az ((l%4294967296:Nat):Int):=(c 14 aj aj aj).trans (by simp only[go_sem]);clear c;obtain⟨d,I⟩:∃Q,Q=(u*4294967296+l/4294967296)/Y:=⟨_,rfl⟩;obtain⟨w,A⟩:∃w,w=(u*4294967296+l/4294967296)%Y:=⟨_,rfl⟩;have o:=iN (u*4294967296+l/4294967296) Y;have d5:w<Y:=by rw[A];exact eK _ aa
 rw[←I]at p7 i o;rw[←A]at i k o;clear I A;have dE:d<4294967296:=by
  refine rQ fun h=>?_
  have:=fc Y h;generalize Y*d=z at*
  omega
 have k1:aG .u64 ((u:Int)*4294967296)=((u*4294967296%18446744073709551616:Nat):Int):=by rw[gE];omega
 have k2:aG .u64 (((u*4294967296%18446744073709551616:Nat):Int)+((l/4294967296:Nat):Int))=(((u*4294967296+l/4294967296)%18446744073709551616:Nat):Int):=by rw[gE];omega
 obtain⟨p,T⟩:∃p,p=Y*d:=⟨_,rfl⟩;rw[←T]at o;have cu:aG .u64 ((d:Int)*(Y:Int))=((p%18446744073709551616:Nat):Int):=by rw[←e7,b3,←T,gE];omega
 have ch:aG .u64 ((((u*4294967296+l/4294967296)%18446744073709551616:Nat):Int)-((p%18446744073709551616:Nat):Int))=(w:Int):=by rw[gE];omega
 have d0:=iN w a;have b1:w/a*a≤w:=vg _ _;have bv:w/a<18446744073709551616:=eH (g7 _ _) aa;have dk:aG .u64 ((w/a:Nat):Int)=((w/a:Nat):Int):=cj _ ⟨s7 _,qB.2 bv⟩;have b':w/a*a<18446744073709551616:=aa;have db:aG .u64 (((w/a:Nat):Int)*(a:Int))=((w/a*a:Nat):Int):=by rw[←e7];exact cj _ ⟨s7 _,qB.2 b'⟩
 have dp:aG .u64 (((w:Nat):Int)-((w/a*a:Nat):Int))=((w%a:Nat):Int):=by
  rw[b3]at b1⊢;generalize a*(w/a)=z at*
  generalize w%a=dq at*
  rw[cj _ aa];omega
 rw[fu];simp(disch:=assumption)only[go_sem,Ur,Uq,Up,Uo,E,dj,sk,qX,p7,k1,k2,cu,ch,iC,qp,dk,db,dp];refine agO w (l%4294967296) a j aa ad ac aa _ _ _ ?_ ?_ ?_ ?_ ?_ ?_
 iterate 5 simp only[go_sem,dj,aw,p6]
 intro g c m;rw[←J]at m;have h2:rd 2 g=az (Y:Int):=(c 2 aj aj aj).trans (by simp only[go_sem,E]);have h8:rd 8 g=az (s:Int):=(c 8 aj aj aj).trans (by simp only[go_sem,eV]);have a1:rd 14 g=az ((l%4294967296:Nat):Int):=(c 14 aj aj aj).trans (by simp only[go_sem,p6]);have a2:rd 15 g=az (d:Int):=(c 15 aj aj aj).trans (by simp only[go_sem,p7]);have a3:rd 17 g=az (w:Int):=(c 17 aj aj aj).trans (by simp only[go_sem]);clear c;obtain⟨f,H⟩:∃Q,Q=(w*4294967296+l%4294967296)/Y:=⟨_,rfl⟩;obtain⟨x,B⟩:∃w',w'=(w*4294967296+l%4294967296)%Y:=⟨_,rfl⟩;have q:=iN (w*4294967296+l%4294967296) Y;have d6:x<Y:=by rw[B];exact eK _ aa
 rw[←H]at m i q;rw[←B]at k q;clear H B;have dC:f<4294967296:=by
  refine rQ fun h=>?_
  have:=fc Y h;generalize Y*f=z at*
  omega
 have m1:aG .u64 ((w:Int)*4294967296)=((w*4294967296%18446744073709551616:Nat):Int):=by rw[gE];omega
 have m2:aG .u64 (((w*4294967296%18446744073709551616:Nat):Int)+((l%4294967296:Nat):Int))=(((w*4294967296+l%4294967296)%18446744073709551616:Nat):Int):=by rw[gE];omega
 obtain⟨p2,U⟩:∃p,p=Y*f:=⟨_,rfl⟩;rw[←U]at q;have cp:aG .u64 ((f:Int)*(Y:Int))=((p2%18446744073709551616:Nat):Int):=by rw[←e7,b3,←U,gE];omega
 have cs:aG .u64 ((((w*4294967296+l%4294967296)%18446744073709551616:Nat):Int)-((p2%18446744073709551616:Nat):Int))=(x:Int):=by rw[gE];omega
 have c0:aG .u64 ((d:Int)*4294967296)=((d*4294967296:Nat):Int):=by rw[cj _ aa];omega
 have c1:aG .u64 (((d*4294967296:Nat):Int)+(f:Int))=((d*4294967296+f:Nat):Int):=by rw[cj _ aa];omega
 have cd:x/2^s=(b*18446744073709551616+lo)%y:=by rw[←k,td _ F]
 rw[fu];simp(disch:=assumption)only[go_sem,Un,h2,h8,a1,a2,a3,m,R,lI,m1,m2,cp,cs,c0,c1,cd,←i]
end Go.Proofs.YtddhncjmaahodaaGreatDoor
