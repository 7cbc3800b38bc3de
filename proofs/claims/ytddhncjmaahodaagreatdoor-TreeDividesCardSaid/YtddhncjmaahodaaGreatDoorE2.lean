/- Towards the law TreeDivides: lemmas on the evaluator of the model's code, plain laws of numbers, walks of the program's functions, the card. No conditions. -/
import Derived.Test.YtddhncjmaahodaaGreatDoorE1
set_option linter.all false
noncomputable section
open Bool renaming and_eq_true→cC,eq_false_iff→lq,false_eq_true→iM,or_eq_true→tq
open Classical renaming byContradiction→oN
open Go.Proofs.Tryz renaming prog→eO
open Int renaming natAbs_mul→oO,natAbs_natCast→d_,natAbs_neg→mY,natCast_mul→fY,natCast_nonneg→uP,natCast_zero→jU,ofNat_lt→oc,tdiv→lO,tmod→mZ,toNat_natCast→bH
open List renaming append_assoc→fl,append_nil→fN,cons_append→eL,drop_eq_getElem_cons→lz,drop_of_length_le→jF,getD_eq_getElem?_getD→cy,getElem?_append_left→p8,getElem?_append_right→tv,getElem?_drop→uR,getElem?_eq_getElem→cx,getElem?_eq_none→m0,getElem?_eq_some_iff→gZ,getElem?_map→iW,getElem_mem→wB,length_append→aV,length_cons→cV,length_drop→g5,length_nil→kS,length_singleton→gP,length_take_of_le→g_,length_take→dP,length→kD,mem_append→hN,mem_cons→jr,mem_map→kT,mem_of_getElem?→eN,mem_of_mem_take→uS,mem_singleton→ec,merge→r8,nil_append→eE,pairwise_append→wD,pairwise_cons→tA,replicate_succ→qa,replicate_zero→qb,replicate→aW,take_append_drop→qc,take_left→q4,take_of_length_le→b8,take_succ_eq_append_getElem→kU,take_zero→q5
open Nat renaming add_assoc→mo,add_comm→js,add_mul→eu,add_sub_cancel→q7,add_zero→cG,add→gF,beq_refl→tC,beq→bn,ble→bL,div_add_mod→jt,div_div_eq_div_mul→oQ,div_eq_of_lt→m3,div_le_self→ju,div_lt_iff_lt_mul→q8,div_lt_of_lt_mul→uT,div_mul_le_self→wG,div_one→qe,eq_zero_or_pos→r_,gcd_comm→qf,gcd→cu,le_add_right→sg,le_div_iff_mul_le→tD,le_of_lt→hO,le_of_not_lt→jW,le_refl→aF,le_trans→cH,lt_of_le_of_lt→e_,lt_of_lt_of_le→eF,lt_of_mul_lt_mul_right→tE,lt_of_not_le→tF,lt_or_ge→oe,lt_succ_self→mq,lt_trans→qg,mod_eq_of_lt→kf,mod_lt→eX,mul_add→cr,mul_assoc→cI,mul_comm→b3,mul_div_cancel→uU,mul_le_mul_left→fE,mul_le_mul_right→ee,mul_le_mul→jX,mul_lt_mul_of_pos_right→og,mul_mod_mul_right→si,mul_ne_zero→uV,mul_one→ef,mul_right_comm→uW,mul_zero→fy,mul→eM,not_lt_zero→m5,one_mul→iP,pos_of_ne_zero→lA,pow_add→gG,pow_le_pow_left→wH,pow_le_pow_right→gw,pow_pos→fR,pow_succ→cS,pow_zero→nL,reduceEqDiff→kW,strongRecOn→jG,sub_self→m6,sub→jv,succ_mul→oR,succ_ne_zero→sj,succ_pos→m7,zero_add→eJ,zero_le→b4,zero_mul→jg
open Option renaming none→aJ
open Rat renaming divInt_ofNat→uZ,divInt→nM
open UInt8 renaming ofNat→g6
namespace Go.Proofs.YtddhncjmaahodaaGreatDoor
open Go.au Go.aD
theorem sM(z:Int):V.agg [.bool (decide (z<0)),mag (aO z.natAbs)]=cq z:=rfl
theorem pJ(q:Rat):V.agg [.bool (decide (q.num<0)),mag (aO q.num.natAbs),aC,mag (aO (dd q))]=bz q:=rfl
variable{h:Nat}{u:Nat}{L:Nat}
theorem x6{a:Nat}(c:u<2^a)(d:L<2^h)(b:a+h≤30000000):ey (u*L):=ey.of (uf c d) b
theorem xQ(p q:Rat){a:Nat}(i:bg a p)(j:bg h q)(z:a+h+1≤30000000):aS 37 [bz p,bz q] (bz (p+q)):=by
 have o:ey p.num.natAbs:=ey.of i.num aa;have s:ey q.num.natAbs:=ey.of j.num aa;have r:ey p.den:=ey.of i.den aa;have t:ey q.den:=ey.of j.den aa;refine fK (.cons (fT _) (.cons (fT _) .nil)) (aT aly ?_)
 have n:∀F H,rd 2 F=.ptr 5 0→rd 3 F=.ptr 6 0→rd 4 F=.ptr 7 0→H.get 5=.cells (bk p) 0→H.get 6=.cells (bk q) 0→H.get 7=.cells [aC,.ak,aC,.ak] 0→
  bw (pc 37 0) (fu [.cell 4 true 4] fun G m=>∃v,bO m (af.zero m.next) G v∧bA v∧v=bz (p+q)) F H:=by
  intro F H b g y f c bh;unfold bk at f c;have B:ey (p.num*(q.den:Int)).natAbs:=by rw[oO];exact x6 i.num j.den aa
  have C:ey (q.num*(p.den:Int)).natAbs:=by rw[oO];exact x6 j.num i.den aa
  have D:ey ((p.den:Int)*(q.den:Int)).natAbs:=by rw[oO];exact x6 i.den j.den aa
  have E:ey (p.num*(q.den:Int)+q.num*(p.den:Int)).natAbs:=by
   refine e_ (Int.natAbs_add_le _ _) ?_;rw[oO,oO];have I:=uf i.num j.den;have u:=uf j.num i.den;rw[js h a]at u;refine ey.of (k:=a+h+1) ?_ z;rw[cS];show p.num.natAbs*q.den+q.num.natAbs*p.den<_;omega
  have A:((p.den:Int)*(q.den:Int))≠0:=by
   have k:=p.den_nz;have b:=q.den_nz;exact Int.mul_ne_zero aa aa
  have e:nM (p.num*(q.den:Int)+q.num*(p.den:Int)) ((p.den:Int)*(q.den:Int))=p+q:=by
   rw[AA,←fY,uZ]
  simp only[go_sem,adM,sM,pJ,b,g,f,c];refine use (w9 q) ?_;simp only[go_sem,sM,pJ,b,g,f,c,true_and];refine use (xH _ _ o (by rw[d_];exact t)) ?_;simp only[go_sem,sM,pJ,b,g,f,c,true_and];refine use (w9 p) ?_;simp only[go_sem,sM,pJ,b,g,f,c,true_and];refine use (xH _ _ s (by rw[d_];exact r)) ?_;simp only[go_sem,pJ,b,g,f,c,true_and];refine use (IT _ _ B C) ?_;simp only[go_sem,pJ,b,g,f,c,true_and];refine use (w9 p) ?_;simp only[go_sem,pJ,g,c,true_and];refine use (w9 q) ?_;simp only[go_sem];refine use (xH _ _ (by rw[d_];exact r) (by rw[d_];exact t)) ?_;simp only[go_sem];refine use (xp _ _ A E D) ?_;rw[e];simp only[go_sem,bz,bk,y,bh];exact iG rfl (fT _)
 by_cases k:p.den=1
 ·by_cases b:q.den=1
  ·have d:=ng k;have l:=ng b;obtain⟨w,x⟩:=add_one k b;simp(disch:=omega)only[go_sem,d37,E2,bz,bk,d,l,sQ,sM,jU,decide_true];refine use (IT _ _ o s) ?_;simp only[go_sem,cq,ei];exact FR w x
  ·have d:=ng k;have l:=jM b;have K:=sP q.den_nz;simp(disch:=omega)only[go_sem,d37,E2,bz,bk,d,l,sQ,df,jU,decide_true];refine n _ _ ?_ ?_ ?_ ?_ ?_ ?_
   all_goals simp only[go_sem,bk,d,l]
 ·have d:=jM k;have J:=sP p.den_nz;simp(disch:=omega)only[go_sem,d37,E2,bz,bk,d,df];refine n _ _ ?_ ?_ ?_ ?_ ?_ ?_
  all_goals simp only[go_sem,bk,d]
theorem Q6(p q:Rat){a:Nat}(f:bg a p)(g:bg h q)(C:a+h≤30000000):aS 38 [bz p,bz q] (bz (p*q)):=by
 have r:ey p.num.natAbs:=ey.of f.num aa;have s:ey q.num.natAbs:=ey.of g.num aa;have z:ey p.den:=ey.of f.den aa;have A:ey q.den:=ey.of g.den aa;refine fK (.cons (fT _) (.cons (fT _) .nil)) (aT alz ?_)
 have n:∀F H,rd 2 F=.ptr 5 0→rd 3 F=.ptr 6 0→rd 4 F=.ptr 7 0→H.get 5=.cells (bk p) 0→H.get 6=.cells (bk q) 0→H.get 7=.cells [aC,.ak,aC,.ak] 0→
  bw (pc 38 0) (fu [.cell 4 true 4] fun B m=>∃v,bO m (af.zero m.next) B v∧bA v∧v=bz (p*q)) F H:=by
  intro F H c l w k j bh;unfold bk at k j;have o:ey (p.num*q.num).natAbs:=by rw[oO];exact x6 f.num g.num aa
  have y:ey ((p.den:Int)*(q.den:Int)).natAbs:=by rw[oO];exact x6 f.den g.den aa
  have x:((p.den:Int)*(q.den:Int))≠0:=by
   have d:=p.den_nz;have c:=q.den_nz;exact Int.mul_ne_zero aa aa
  have e:nM (p.num*q.num) ((p.den:Int)*(q.den:Int))=p*q:=by
   rw[Gq,←fY,uZ]
  simp only[go_sem,adN,sM,pJ,c,l,k,j];refine use (xH _ _ r s) ?_;simp only[go_sem,pJ,c,l,k,j,true_and];refine use (w9 p) ?_;simp only[go_sem,pJ,l,j,true_and];refine use (w9 q) ?_;simp only[go_sem];refine use (xH _ _ (by rw[d_];exact z) (by rw[d_];exact A)) ?_;simp only[go_sem];refine use (xp _ _ x o y) ?_;rw[e];simp only[go_sem,bz,bk,w,bh];exact iG rfl (fT _)
 by_cases d:p.den=1
 ·by_cases c:q.den=1
  ·have b:=ng d;have i:=ng c;obtain⟨t,u⟩:=mul_one d c;have o:ey (p.num*q.num).natAbs:=by rw[oO];exact x6 f.num g.num aa
   simp(disch:=omega)only[go_sem,d38,E3,bz,bk,b,i,sQ,sM,jU,decide_true];refine use (xH _ _ r s) ?_;simp only[go_sem,cq,ei];exact FR t u
  ·have b:=ng d;have i:=jM c;have E:=sP q.den_nz;simp(disch:=omega)only[go_sem,d38,E3,bz,bk,b,i,sQ,df,jU,decide_true];refine n _ _ ?_ ?_ ?_ ?_ ?_ ?_
   all_goals simp only[go_sem,bk,b,i]
 ·have b:=jM d;have D:=sP p.den_nz;simp(disch:=omega)only[go_sem,d38,E3,bz,bk,b,df];refine n _ _ ?_ ?_ ?_ ?_ ?_ ?_
  all_goals simp only[go_sem,bk,b]
theorem Hv(p q:Rat){a:Nat}(c:bg a p)(d:bg h q)(b:a+h+1≤30000000):aS 39 [bz p,bz q] (bz (p-q)):=by
 refine cM (.cons (fT _) (.cons (fT _) .nil)) (fT _) (aT alA ?_);simp only[go_sem,d39,adO,bz,bk];refine use (Q7 q) ?_;simp only[go_sem,pJ,true_and];refine use (xQ p (-q) c d.neg b) ?_;rw[Rat.sub_eq_add_neg];simp only[go_sem,bz,bk]
def gj(q:Rat):Int:=if q.num<0 then-1 else if q.num=0 then 0 else 1
theorem zQ(p q:Rat){a:Nat}(c:bg a p)(d:bg h q)(b:a+h+1≤30000000):aS 40 [bz p,bz q] (ah (gj (p-q))):=by
 refine cM (.cons (fT _) (.cons (fT _) .nil)) (.int _ _) (aT alB ?_);simp only[go_sem,d40,adP,bz,bk];refine use (Hv p q c d b) ?_;simp only[go_sem,pJ];refine use (zU (p-q)) ?_;simp only[go_sem,gj]
end Go.Proofs.YtddhncjmaahodaaGreatDoor
namespace Go.aD
def ds(n:Nat):List UInt8:=if h:n=0 then []else ds (n/10)++[g6 (48+n%10)]
termination_by n
decreasing_by omega
theorem nR:ds 0=[]:=by rw[ds];simp
variable{a:Nat}
theorem qm(h:a≠0):ds a=ds (a/10)++[g6 (48+a%10)]:=by rw[ds];simp[h]
theorem Ba(v c:Nat)(a:c<10)(h:v≠0∨c≠0):ds (10*v+c)=ds v++[g6 (48+c)]:=by
 rw[qm aa,(aa:(10*v+c)/10=v),(aa:(10*v+c)%10=c)]
def dec(n:Nat):List UInt8:=if n=0 then [48]else ds n
def dv(l:List UInt8):Nat:=l.foldl (fun a c=>10*a+(c.toNat-48)) 0
theorem xd(l:List UInt8)(c:UInt8):dv (l++[c])=10*dv l+(c.toNat-48):=by simp[dv]
theorem agt(n:Nat):dv (ds n)=n:=by
 induction n using jG with
 |ind n a=>
  by_cases h:n=0
  ·subst h;rw[nR];rfl
  grind [qm,xd,UInt8.toNat_ofNat']
theorem ox(n:Nat):dv (dec n)=n:=by
 unfold dec;split
 ·rename_i h;rw[h];rfl
 ·exact agt n
def ez(c:UInt8):Prop:=48≤c.toNat∧c.toNat≤57
instance(c:UInt8):Decidable (ez c):=inferInstanceAs (Decidable (_∧_))
theorem agp(n:Nat):∀c∈ds n,ez c:=by
 induction n using jG with
 |ind n a=>
  by_cases h:n=0
  ·grind [nR]
  ·rw[qm h];intro c hc;rcases hN.1 hc with hc|hc
   ·grind
   ·rw[ec.1 hc];have:(g6 (48+n%10)).toNat=48+n%10:=by
     rw[UInt8.toNat_ofNat'];omega
    unfold ez;rw[this];omega
theorem o3(n:Nat):∀c∈dec n,ez c:=by
 unfold dec;split
 ·intro c a;rw[ec.1 a];decide
 ·exact agp n
theorem A_(h:a≠0):ds a≠[]:=by rw[qm h];simp
theorem o4(n:Nat):dec n≠[]:=by
 unfold dec
 grind [A_]
theorem ago(n:Nat):∀c l,ds n=c::l→c≠48:=by
 induction n using jG with
 |ind n f=>
  by_cases h:n=0
  ·grind [nR]
  ·rw[qm h];intro c l a;by_cases d:n/10=0
   ·rw[d,nR]at a;have e:=(List.cons.inj a).1;rw[←e];intro b;have:=congrArg UInt8.toNat b
    grind [UInt8.toNat_ofNat']
   ·cases e:ds (n/10)with
    |nil=>grind [A_]
    |cons x m=>
     grind
theorem ql{n k:Nat}(h:n<10^k):(ds n).length≤k:=by
 induction k generalizing n with
 |zero=>
  simp_all [nR,aF]
 |succ k a=>
  by_cases e:n=0
  ·grind
  grind [qm,cS]
variable{h:Nat}
theorem agq(b:10^h≤a):h<(ds a).length:=by
 induction h generalizing a with
 |zero=>
  grind [A_]
 |succ h c=>
  grind [fR,qm,cS]
theorem vg(b:a<2^h):(dec a).length≤h+1:=by
 unfold dec;split
 ·simp
 ·have:a<10^h:=eF b (wH ag h);have:=ql this;omega
variable{j:List UInt8}
theorem agn(g:∀c∈j,ez c)(h:∀c m,j=c::m→c≠48):ds (dv j)=j:=by
 have:∀(r:List UInt8),(∀c∈r,ez c)→(∀c m,r.reverse=c::m→c≠48)→ds (dv r.reverse)=r.reverse:=by
  intro r;induction r with
  |nil=>intro _ _;exact nR
  |cons c r k=>
   intro a f;have b:ez c:=a c aE;have l:=k (fun x i=>a x (by simp[i])) (fun x m e=>f x (m++[c]) (by simp[e]));have d:g6 (48+(c.toNat-48))=c:=by
    rw[show 48+(c.toNat-48)=c.toNat by have:=b.1;omega];simp
   rw[List.reverse_cons,xd,Ba _ _ (by have:=b.2;omega),l,d];by_cases e:r.reverse=[]
   ·right;intro n;simp_all
   grind [nR]
 have:=this j.reverse (by simpa using g) (by simpa using h);simpa using this
theorem Fg{a:Nat}(b:dec a=dec h):a=h:=by grind [ox]
def bf(q:Rat):List UInt8:=(if q.num<0 then [45]else [])++(dec q.num.natAbs++(if q.den=1 then []else 47::dec q.den))
def pv:List Nat→Nat
 |[]=>0
 |d::l=>d+1000000000*pv l
theorem Qn:∀(l m:List Nat),pv (l++m)=pv l+1000000000^l.length*pv m
 |[],m=>by simp[pv]
 |d::l,m=>by
  simp only[eL,pv,cV,cS,Qn l m,cr];rw[b3 (1000000000^l.length) 1000000000,cI,mo]
theorem aoK(l:List Nat)(d m:Nat)(h:d+1000000000*m=a):pv (l++[d])+1000000000^(l++[d]).length*m=pv l+1000000000^l.length*a:=by
 rw[Qn,←h,aV,gP,cS,cr];simp only[pv,fy,cG]
 grind
variable{d:List Nat}
theorem aoJ(h:a<d.length):pv (d.drop a)=d.getD a 0+1000000000*pv (d.drop (a+1)):=by
 rw[lz h];simp[pv,cy,h]
theorem afZ(w p s:Nat)(b:s<9):w*10^(9-s)+p/10^s=10*(w*10^(9-(s+1))+p/10^(s+1))+p/10^s%10:=by
 have a:9-s=(9-(s+1))+1:=aa;rw[a,cS,cS,←oQ,←cI];omega
end Go.aD
namespace Go.Proofs.YtddhncjmaahodaaGreatDoor
open Go.au Go.aD
variable{c:af}{d:List Nat}{a:Nat}{h:Nat}
theorem ai2{v:V}{k:IntKind}(g:aH c 1 v (bx d) a)(hi:h<d.length):∃b,eo none 1 [v,.int k (h:Int)]=some (.val (.ptr b h))∧c.get b=.cells (bx d) a∧c.fV b a=true:=by
 generalize e:bx d=r at g
 cases g with
 |nil=>
  have:=congrArg kD e;rw[ia,kS]at this;omega
 |cells i l j o m hl p=>
  rename_i b n f;have q:n=d.length:=by rw[←e,ia]at m;omega
  refine⟨b,?_,i,xD l j⟩;rw[bW ⟨aa,aa⟩];simp
def An(p w i:Nat)(e:V)(f:List Nat)(g3:Nat):Nat→Fr→af→Prop:=fun k a b=>∃(s:Nat) (d:V) (c:Nat),k=s∧s≤9∧rd 3 a=e∧rd 8 a=ah (i:Int)∧rd 7 a=d∧rd 9 a=.int .u32 (((10^s/10:Nat)):Int)∧aH b 1 d (cm (ds (w*10^(9-s)+p/10^s))) c∧(ds (w*10^(9-s)+p/10^s)).length≤(ds w).length+(9-s)∧(c=0∨c≠g3)∧aH b 1 e (bx f) g3∧g3<b.next
theorem afX(p w:Nat)(hp:p<1000000000)(i:Nat)(b Y:V)(bh:Nat)(F:Fr)(H:af)(R:X→Fr→af→Prop)(f:List Nat)(g3:Nat)(h3:aH H 1 b (bx f) g3)(hi:i<f.length)(bi:f.getD i 0=p)
 (hw:(ds w).length+9≤1000000000) (h7:aH H 1 Y (cm (ds w)) bh) (bc:bh=0∨bh≠g3) (ba:g3<H.next) (a2:rd 3 F=b) (a3:rd 7 F=Y) (a4:rd 8 F=ah (i:Int)) (a5:rd 9 F=.int .u32 100000000)
 (hR:∀z A r q,rd 3 z=b→rd 8 z=ah (i:Int)→rd 7 z=r→aH A 1 r (cm (ds (p+1000000000*w))) q→(q=0∨q≠g3)→aH A 1 b (bx f) g3→g3<A.next→R (.exit 4) z A):
 bw (.loop (pc 68 6)) R F H:=by
 refine bK (An p w i b f g3) 9
  ⟨9,Y,bh,rfl,aF _,a2,a4,a3,by rw[a5];rfl,?_,?_,bc,h3,ba⟩ ?_
 ·rw[m6,nL,ef,m3 hp,cG];exact h7
 ·rw[m6,nL,ef,m3 hp,cG];exact aF _
 rintro k ca G ⟨s,r,q,rfl,hs,l,m,v,g,h,bb,D,B,ad⟩;rw[afa];cases k with
 |zero=>
  simp only[nL,show 1/10=0 from rfl,Nat.sub_zero,qe]at g h;simp(disch:=omega)only[go_sem,g,jU,df];refine hR _ _ r q ?_ ?_ ?_ ?_ D B ad
  iterate 3 simp only[go_sem,l,m,v]
  ·rw[show p+1000000000*w=w*10^9+p by rw[b3 w];omega];exact h
 |succ s=>
  have bo:10^(s+1)/10=10^s:=by rw[cS,uU _ ag]
  have bs:0<10^s:=fR ag;have bj:10^s≤10^8:=gw ag aa;have E:=afZ w p s aa;rw[bo]at g;obtain⟨d,y⟩:∃d,d=10^s:=⟨_,rfl⟩;obtain⟨x,o⟩:∃x,x=p/d:=⟨_,rfl⟩;obtain⟨c,Z⟩:∃c,c=x%10:=⟨_,rfl⟩;have ab:c<10:=aa;obtain⟨u,hu⟩:∃u,u=w*10^(9-(s+1))+p/10^(s+1):=⟨_,rfl⟩;rw[←y]at g bs bj E;rw[←o,←Z,←hu]at E;rw[←hu]at h bb;obtain⟨a1,T,bB,l3⟩:=ai2 (k:=.i64) B hi;have P:sN false 1 i G a1 (.cells (bx f) g3)=some (.int .u32 (p:Int)):=by rw[Gg l3,hD hi,bi]
  have cf:((d:Nat):Int)≠0:=aa;have ch:x<4294967296:=by rw[o];exact e_ (ju _ _) aa
  have N:((x:Nat):Int).tmod 10=(c:Int):=by rw[Z];rfl
  have S:aB .u8 (48+(c:Int))=((48+c:Nat):Int):=by rw[Sr];omega
  have O:aB .u32 (48+(c:Int))=48+(c:Int):=gL _ aa;have C:=h.len ag;rw[jh,qe]at C;have be:((d:Nat):Int).tdiv 10=((10^s/10:Nat):Int):=by rw[y];rfl
  have cd:(10:Int)≠0:=ag;have ce:10^s/10<4294967296:=by rw[←y];omega
  have a':[V.int .u8 ((48+c:Nat):Int)]=cm [g6 (48+c)]:=by
   simp only[cm,List.map_cons,List.map_nil];rw[UInt8.toNat_ofNat',(aa:(48+c)%2^8=48+c)]
  have done:∀(a:Fr) (j:af) (t:V) (n:Nat),rd 3 a=b→rd 8 a=ah (i:Int)→rd 7 a=t→rd 9 a=.int .u32 (d:Int)→aH j 1 t (cm (ds (10*u+c))) n→(ds (10*u+c)).length≤(ds u).length+1→(n=0∨n≠g3)→aH j 1 b (bx f) g3→g3<j.next→
   bw (pc 68 4) (fD (oS (An p w i b f g3) (s+1)) R) a j:=by
   intro a j t n I J a7 K ar al aw am a0;simp(disch:=assumption)only[go_sem,ae',K,jK,be];rw[gL _ aa];refine⟨s,mq s,s,t,n,rfl,aa,?_,?_,?_,?_,?_,?_,aw,am,a0⟩
   iterate 4 simp only[go_sem,I,J,a7]
   ·rw[←y,←o,E];exact ar
   ·rw[←y,←o,E];omega
  have append:ds (10*u+c)=ds u++[g6 (48+c)]→∀(a:Fr),rd 3 a=b→rd 8 a=ah (i:Int)→rd 9 a=.int .u32 (d:Int)→
   gk (some 60) (jY eO 5 [ex 7 (bN (rd 60))] (iY 5 (fD (bw (pc 68 4) (fD (oS (An p w i b f g3) (s+1)) R)) (fD (oS (An p w i b f g3) (s+1)) R)) .norm)) a
    (fA 1 1 [r,.slice G.next 0 1 (.known 1)] (G.push (.cells [V.int .u8 ((48+c:Nat):Int)] 0))):=by
   intro he a I J K;refine Nv h rfl ⟨by rw[jh];omega,ag⟩ fun t j n U W b0 b1=>?_
   have b2:aH j 1 b (bx f) g3:=B.other h (hO b1) b0 D;simp only[go_sem];refine done _ _ t n ?_ ?_ ?_ ?_ ?_ ?_ ?_ b2 aa
   iterate 4 simp only[go_sem,I,J,K]
   ·rw[he];rw[a']at U;unfold cm at U⊢;rw[List.map_append];exact U
   ·rw[he,aV];simp
   ·rcases W with⟨_,W⟩|⟨W,b'⟩
    ·right;omega
    ·rw[b'];exact D
  by_cases L:0<(ds u).length
  ·have bd:u≠0:=fun e=>by rw[e,nR]at L;exact absurd L (Nat.lt_irrefl _)
   simp(disch:=omega)only[go_sem,E7,g,l,m,v,dt,T,bB,P,jK,mC,s8,←o,gL,N,O,S,C];refine append (Ba u c ab (.inl bd)) _ ?_ ?_ ?_
   iterate 3 simp only[go_sem,l,m,g]
  ·have Q:u=0:=oN fun e=>L (List.length_pos_iff.2 (A_ e))
   by_cases M:c=0
   ·simp(disch:=omega)only[go_sem,E7,g,l,m,v,dt,df,T,bB,P,jK,mC,s8,←o,gL,N,O,S,C];refine done _ _ r q ?_ ?_ ?_ ?_ ?_ ?_ D B ad
    iterate 4 simp only[go_sem,l,m,v,g]
    ·rw[Q,M];rw[Q]at h;exact h
    ·rw[Q,M];exact Nat.le_succ _
   ·simp(disch:=omega)only[go_sem,E7,g,l,m,v,dt,df,T,bB,P,jK,mC,s8,←o,gL,N,O,S,C];refine append (Ba u c ab (.inr M)) _ ?_ ?_ ?_
    iterate 3 simp only[go_sem,l,m,g]
theorem afV(a:List Nat)(d:Nat):bx a++[V.int .u32 (d:Int)]=bx (a++[d]):=by simp[bx]
theorem aog(n k:Nat)(x:n<2^k)(L:k≤30000000)(F:Fr)(H:af)(R:X→Fr→af→Prop)(A:rd 3 F=.ak)(B:rd 4 F=mag (aO n))(G:H.next≠0)
 (I:∀o f v g b,rd 3 o=v→aH f 1 v (bx b) g→pv b=n→(∀p∈b,p<1000000000)→b.length≤10000000→g<f.next→R (.exit 0) o f):
 bw (.loop (pc 68 3)) R F H:=by
 refine bK (fun j e i=>∃(m:Nat) (b:List Nat) (v:V) (g:Nat),j=m∧rd 3 e=v∧rd 4 e=mag (aO m)∧aH i 1 v (bx b) g∧pv b+1000000000^b.length*m=n∧m*2^(29*b.length)≤n∧m≤n∧(∀p∈b,p<1000000000)∧b.length≤10000000∧g<i.next) n
  ⟨n,[],.ak,0,rfl,A,B,.nil,by simp[pv],aE,aF _,(fun _ h=>by cases h),aE,lA G⟩ ?_
 rintro j e i ⟨m,b,v,g,rfl,q,r,t,z,w,u,y,hl,K⟩;rw[ae_];by_cases c:j=0
 ·subst c;simp(disch:=omega)only[go_sem,r,sQ,jU,df];refine I _ _ v g b ?_ t (by simpa using z) y hl K;simp only[go_sem,q]
 ·have T:=sP c;have O:ey j:=ey.of (e_ u x) L;have s:=RD (aO j) 1000000000 (gW _) ⟨ag,ag⟩ (by have:=O.len;omega);rw[fQ]at s;have S:29*b.length<k:=by
   refine(Nat.pow_lt_pow_iff_right (a:=2) ag).1 (e_ ?_ x);refine cH ?_ w;exact Nat.le_mul_of_pos_left _ (lA c)
  simp(disch:=omega)only[go_sem,ae9,r,dt];refine use s ?_;simp(disch:=omega)only[go_sem,ae2,q];refine Nv t rfl ⟨by rw[ia];omega,ag⟩ fun P Q C l d U W=>?_
  simp only[go_sem,ae1];have J:=Nat.mod_add_div j 1000000000;refine⟨j/1000000000,Nat.div_lt_self (lA c) ag,j/1000000000,b++[j%1000000000],P,C,rfl,?_,?_,?_,?_,?_,?_,?_,?_,?_⟩
  iterate 2 simp only[go_sem]
  ·rw[←afV];exact l
  ·rw[aoK b _ _ J];exact z
  ·rw[aV,gP,cr,ef,gG,←cI,uW];refine cH (ee _ ?_) w;have:2^29≤1000000000:=ag;have D:=fE (j/1000000000) this;have E:=wG j 1000000000;exact cH D E
  ·exact cH (ju _ _) u
  ·intro p N;rcases hN.1 N with h|h
   ·exact y p h
   ·rw[ec.1 h];exact eX _ ag
  ·rw[aV,gP];omega
  ·rcases d with⟨_,d⟩|⟨_,d⟩
   ·generalize bx b++[V.int .u32 ((j%1000000000:Nat):Int)]=Y at l
    cases l with
    |nil=>omega
    |cells _ _ _ _ _ M _=>exact M
   ·rw[d];omega
theorem amd(a:List Nat)(P:∀p∈a,p<1000000000)(hl:a.length≤10000000)(c:V)(g3:Nat)(F:Fr)(H:af)(R:X→Fr→af→Prop)(G:aH H 1 c (bx a) g3)(L:g3<H.next)(z:rd 3 F=c)(A:rd 7 F=.ak)(B:rd 8 F=ah ((a.length:Int)-1))
 (J:∀f j v g,rd 7 f=v→aH j 1 v (cm (ds (pv a))) g→R (.exit 2) f j):
 bw (.loop (pc 68 9)) R F H:=by
 refine bK (fun k b d=>∃(v:V) (g:Nat),rd 3 b=c∧rd 7 b=v∧rd 8 b=ah ((k:Int)-1)∧k≤a.length∧aH d 1 v (cm (ds (pv (a.drop k)))) g∧(ds (pv (a.drop k))).length≤9*(a.length-k)∧(g=0∨g≠g3)∧aH d 1 c (bx a) g3∧g3<d.next) a.length
  ⟨.ak,0,z,A,B,aF _,?_,?_,.inl rfl,G,L⟩ ?_
 ·rw[jF (aF _),show pv []=0 from rfl,nR];exact .nil
 ·rw[jF (aF _),show pv []=0 from rfl,nR];simp
 rintro k b d ⟨v,g,C,m,n,U,q,W,O,M,N⟩;rw[afd];cases k with
 |zero=>
  simp(disch:=omega)only[go_sem,n,dt];refine J _ _ v g ?_ q;simp only[go_sem,m]
 |succ i=>
  have o:rd 8 b=ah (i:Int):=by rw[n];congr 1;omega
  have hi:i<a.length:=aa;have r:a.getD i 0<1000000000:=by
   refine P _ ?_;rw[cy,cx hi];exact wB hi
  have e:=aoJ hi;simp(disch:=omega)only[go_sem,afc,o,df];refine afX (a.getD i 0) (pv (a.drop (i+1))) r i c v g _ _ _ a g3 M hi rfl aa q O N ?_ ?_ ?_ ?_ ?_
  iterate 4 simp only[go_sem,C,m,o]
  intro S T Q D s w u l y t x;rw[←e]at l;rw[fF];have K:(ds (pv (a.drop i))).length≤9*(a.length-i):=by
   by_cases E:pv (a.drop (i+1))=0
   ·rw[e,E,fy,cG];have:=ql (n:=a.getD i 0) (k:=9) r;omega
   ·refine ql ?_;have Y:pv (a.drop (i+1))<10^(9*(a.length-(i+1))):=by
     refine tF fun h=>?_
     have:=agq h;omega
    rw[e,(aa:9*(a.length-i)=9*(a.length-(i+1))+9),gG];have I:(10:Nat)^9=1000000000:=rfl;rw[I];omega
  simp(disch:=omega)only[go_sem,afb,w,aI];refine⟨i,mq i,Q,D,?_,?_,?_,aa,l,K,y,t,x⟩
  iterate 3 simp only[go_sem,s,u]
theorem Fh(z:Int)(o:z.natAbs<2^a)(j:a≤30000000):aS 68 [cq z] (.str (dec z.natAbs)):=by
 refine cM (.cons (jz _) .nil) (.str _) (aT alS ?_);by_cases h:z.natAbs=0
 ·have hl:(aO z.natAbs).length=0:=by rw[h];exact sQ
  simp(disch:=omega)only[go_sem,d68,MV,cq,ei,hl,jU,decide_true];rw[h];rfl
 ·have hl:=sP h;simp(disch:=omega)only[go_sem,d68,MV,ae8,ae7,ae6,cq,ei,df];refine aog z.natAbs a o j _ _ _ ?_ ?_ ?_ ?_
  iterate 2 simp only[go_sem]
  ·exact sj _
  intro q s v g p b c m l k f;have d:=c.len ag;rw[ia,qe]at d;rw[fF];simp(disch:=omega)only[go_sem,ae5,ae4,b,d,aI];refine amd p l k v g _ _ _ c f ?_ ?_ ?_ ?_
  iterate 3 simp only[go_sem,b]
  intro r t w u e i;rw[fF];have n:=i.str;simp(disch:=omega)only[go_sem,ae3,e,n];rw[m];unfold dec;rw[aj h]
theorem xW{s t:List UInt8}(h:s.length+t.length≤9223372036854775807):pQ (qn .add) [.str s,.str t]=some (.val (.str (s++t))):=by
 show aQ (bL (gF (cn s) (cn t)) 9223372036854775807) (some (aX.val (.str (cX s t))))=_;rw[iH,gV,gV,show(s.length.add t.length).ble 9223372036854775807=true from ki h];rfl
theorem s9(q:Rat)(d:bg a q)(f:a≤30000000):aS 22 [bz q] (.str (bf q)):=by
 refine cM (.cons (fT _) .nil) (.str _) (aT OS ?_);have i:=Fh q.num d.num f;have e:=Fh (q.den:Int) (by rw[d_];exact d.den) f;rw[d_]at e;have l:=vg d.num;have m:=vg d.den;have g:pQ (qn .add) [.str [45],.str (dec q.num.natAbs)]=some (.val (.str ([45]++dec q.num.natAbs))):=xW (by simp;omega);have h:pQ (qn .add) [.str [47],.str (dec q.den)]=some (.val (.str ([47]++dec q.den))):=xW (by simp;omega);have j:pQ (qn .add) [.str ([45]++dec q.num.natAbs),.str ([47]++dec q.den)]=some (.val (.str (([45]++dec q.num.natAbs)++([47]++dec q.den)))):=xW (by simp;omega);have k:pQ (qn .add) [.str (dec q.num.natAbs),.str ([47]++dec q.den)]=some (.val (.str (dec q.num.natAbs++([47]++dec q.den)))):=xW (by simp;omega);simp only[go_sem,d22,LC,bz,bk,sM];refine use i ?_;by_cases c:q.num<0
 ·by_cases b:q.den=1
  ·have hl:(aO (dd q)).length=0:=by rw[ng b];exact sQ
   simp(disch:=first|assumption|omega)only[w6,w5,w4,go_sem,↓reduceIte,kW,dt,df,hl,g]
   simp[bf,c,b]
  ·have hl:0<(aO (dd q)).length:=by rw[jM b];exact sP q.den_nz
   simp(disch:=first|assumption|omega)only[w6,w5,w4,go_sem,↓reduceIte,kW,dt,g]
   rw[jM b,←Gs];refine use e ?_;simp only[go_sem,h,j];simp[bf,c,b]
 ·by_cases b:q.den=1
  ·have hl:(aO (dd q)).length=0:=by rw[ng b];exact sQ
   simp(disch:=first|assumption|omega)only[w6,w5,w4,go_sem,↓reduceIte,kW,df,hl]
   simp[bf,c,b]
  ·have hl:0<(aO (dd q)).length:=by rw[jM b];exact sP q.den_nz
   simp(disch:=first|assumption|omega)only[w6,w5,w4,go_sem,↓reduceIte,kW,dt,df]
   rw[jM b,←Gs];refine use e ?_;simp only[go_sem,h,k];simp[bf,c,b]
section
open Go.au Go.Proofs.Tryz
set_option maxRecDepth 100000
attribute [local irreducible] rd kc ex bF bC re rg mv bN pick alloc box bi bs ba be bq st fa b6 cF cZ cQ c9 dO dN ms cY dF dD dn mx mn dm ap dy cw dr dw bY dx ext dJ neg Go.au.not dG dB dI dH dM dK dz dL dc c_ u8
def afh:=ai 7 f7 0
def d7:=aU 7 f7
def fU:=aR f7 7
def afv:=ai 8 f8 0
def d8:=aU 8 f8
def mK:=aR f8 8
def VS:=ai 11 f11 0
def VT:=ai 11 f11 1
def VU:=ai 11 f11 2
def KS:=ai 11 f11 3
def d11:=aU 11 f11
def qB:=aR f11 11
def adQ:=ai 42 f42 0
def adR:=ai 42 f42 1
def d42:=aU 42 f42
def alC:=aR f42 42
def adY:=ai 47 f47 0
def adZ:=ai 47 f47 1
def ad0:=ai 47 f47 2
def ad1:=ai 47 f47 3
def ad2:=ai 47 f47 4
def ad3:=ai 47 f47 5
def ad4:=ai 47 f47 6
def ad5:=ai 47 f47 7
def ad6:=ai 47 f47 8
def ad7:=ai 47 f47 9
def d47:=aU 47 f47
def alE:=aR f47 47
def ad8:=ai 49 f49 0
def ad9:=ai 49 f49 1
def ad_:=ai 49 f49 2
def ad':=ai 49 f49 3
def aea:=ai 49 f49 4
def aeb:=ai 49 f49 5
def d49:=aU 49 f49
def alF:=aR f49 49
def aec:=ai 50 f50 0
def aed:=ai 50 f50 1
def aee:=ai 50 f50 2
def aef:=ai 50 f50 3
def aeg:=ai 50 f50 4
def aeh:=ai 50 f50 5
def d50:=aU 50 f50
def alG:=aR f50 50
def aei:=ai 51 f51 0
def aej:=ai 51 f51 1
def aek:=ai 51 f51 2
def d51:=aU 51 f51
def alH:=aR f51 51
def ael:=ai 52 f52 0
def d52:=aU 52 f52
def alI:=aR f52 52
def aem:=ai 53 f53 0
def d53:=aU 53 f53
def alJ:=aR f53 53
def aeN:=ai 62 f62 0
def aeO:=ai 62 f62 1
def MT:=ai 62 f62 2
def aeP:=ai 62 f62 3
def aeQ:=ai 62 f62 4
def aeR:=ai 62 f62 5
def d62:=aU 62 f62
def O3:=aR f62 62
def aeT:=ai 64 f64 0
def d64:=aU 64 f64
def alP:=aR f64 64
def afG:=ai 98 f98 0
def afH:=ai 98 f98 1
def afI:=ai 98 f98 2
def afJ:=ai 98 f98 3
def afK:=ai 98 f98 4
def afL:=ai 98 f98 5
def afM:=ai 98 f98 6
def d98:=aU 98 f98
def O6:=aR f98 98
def Vt:=ai 116 f116 0
def Vu:=ai 116 f116 1
def Vy:=ai 116 f116 2
def KQ:=ai 116 f116 3
def Vz:=ai 116 f116 4
def VA:=ai 116 f116 5
def VB:=ai 116 f116 6
def VC:=ai 116 f116 7
def VD:=ai 116 f116 8
def VE:=ai 116 f116 9
def Vv:=ai 116 f116 10
def Vw:=ai 116 f116 11
def Vx:=ai 116 f116 12
def d116:=aU 116 f116
def ajZ:=aR f116 116
def Li:=ai 182 f182 0
def Em:=ai 182 f182 1
def Yp:=ai 182 f182 2
def Yq:=ai 182 f182 3
def Yr:=ai 182 f182 4
def Ys:=ai 182 f182 5
def Yt:=ai 182 f182 6
def Yu:=ai 182 f182 7
def Lj:=ai 182 f182 8
def d182:=aU 182 f182
def akv:=aR f182 182
def Yv:=ai 183 f183 0
def Yw:=ai 183 f183 1
def Yy:=ai 183 f183 2
def Yz:=ai 183 f183 3
def En:=ai 183 f183 4
def YA:=ai 183 f183 5
def YB:=ai 183 f183 6
def YC:=ai 183 f183 7
def Eo:=ai 183 f183 8
def YD:=ai 183 f183 9
def Yx:=ai 183 f183 10
def d183:=aU 183 f183
def akw:=aR f183 183
def afR:=ai 9 f9 0
def d9:=aU 9 f9
def nW:=aR f9 9
end
end Go.Proofs.YtddhncjmaahodaaGreatDoor
namespace Go.aD
def rl:List Nat→List Nat→Int
 |x::a,y::b=>if x=y then rl a b else if y<x then-1 else 1
 |[],[]=>0
 |[],_::_=>1
 |_::_,[]=> -1
def ord(a b:List Nat):Int:=if a.sum=b.sum then rl a.reverse b.reverse else if a.sum<b.sum then-1 else 1
theorem Q3:∀a b,rl b a= -rl a b
 |[],[]=>rfl
 |[],_::_=>rfl
 |_::_,[]=>rfl
 |x::a,y::b=>by
  simp only[rl];by_cases h:x=y
  ·subst h;simp[Q3 a b]
  ·rw[aj h,aj (fun e=>h e.symm)];by_cases c:y<x
   ·rw[ao c,aj aa];rfl
   ·rw[aj c,ao aa]
theorem Q5:∀ {a b:List Nat},rl a b=0→a=b
 |[],[],_=>rfl
 |[],_::_,h=>by cases h
 |_::_,[],h=>by cases h
 |x::a,y::b,h=>by
  simp only[rl]at h;by_cases e:x=y
  ·rw[ao e]at h;rw[e,Q5 h]
  ·rw[aj e]at h;split at h<;>cases h
theorem apB(a b:List Nat):rl a b= -1∨rl a b=0∨rl a b=1:=by
 induction a generalizing b with
 |nil=>cases b with
  |nil=>exact .inr (.inl rfl)
  |cons y b=>exact .inr (.inr rfl)
 |cons x a c=>
  cases b with
  |nil=>exact .inl rfl
  |cons y b=>
   simp only[rl];split
   ·exact c b
   ·split
    ·exact .inl rfl
    ·exact .inr (.inr rfl)
theorem Q4:∀ {a b c:List Nat},0≤rl a b→0≤rl b c→0≤rl a c
 |[],[],_,_,h=>h
 |[],_::_,[],_,h=>by simp[rl]at h
 |[],_::_,_::_,_,_=>by simp[rl]
 |_::_,[],_,h,_=>by simp[rl]at h
 |_::_,_::_,[],_,h=>by simp[rl]at h
 |x::a,y::b,z::c,f,d=>by
  simp only[rl]at*;by_cases g:x=y
  ·subst g;rw[ao rfl]at f;by_cases e:x=z
   ·subst e;rw[ao rfl]at d⊢;exact Q4 f d
   ·rw[aj e]at d⊢;exact d
  ·rw[aj g]at f;have i:x<y:=by
    by_cases h:y<x
    ·rw[ao h]at f;exact absurd f ag
    ·omega
   by_cases e:y=z
   ·subst e;rw[aj g,aj aa];decide
   ·rw[aj e]at d;have j:y<z:=by
     by_cases h:z<y
     ·rw[ao h]at d;exact absurd d ag
     ·omega
    rw[aj aa,aj aa];decide
theorem GM(a b:List Nat):ord b a= -ord a b:=by
 unfold ord;by_cases h:a.sum=b.sum
 ·rw[ao h,ao h.symm,Q3]
 ·rw[aj h,aj (fun e=>h e.symm)];by_cases c:a.sum<b.sum
  ·rw[ao c,aj aa];rfl
  ·rw[aj c,ao aa]
variable{d:List Nat}
theorem an'{a:List Nat}(h:ord a d=0):a=d:=by
 unfold ord at h;split at h
 ·have:=Q5 h;simpa using this
 ·split at h<;>cases h
theorem Qd(a b:List Nat):ord a b= -1∨ord a b=0∨ord a b=1:=by
 unfold ord;split
 ·exact apB _ _
 ·split
  ·exact .inl rfl
  ·exact .inr (.inr rfl)
theorem an_{a c:List Nat}(f:0≤ord a d)(b:0≤ord d c):0≤ord a c:=by
 unfold ord at*;by_cases g:a.sum=d.sum
 ·rw[ao g]at f;by_cases e:d.sum=c.sum
  ·rw[ao e]at b;rw[ao (g.trans e)];exact Q4 f b
  ·rw[aj e]at b;rw[aj aa,g];exact b
 ·rw[aj g]at f;have:d.sum<a.sum:=by
   by_cases h:a.sum<d.sum
   ·rw[ao h]at f;exact absurd f ag
   ·omega
  have i:c.sum≤d.sum:=by
   by_cases e:d.sum=c.sum
   ·omega
   ·rw[aj e]at b;by_cases h:d.sum<c.sum
    ·rw[ao h]at b;exact absurd b ag
    ·omega
  rw[aj aa,aj aa];decide
abbrev ax:=Rat×List Nat
def iq(a b:ax):Bool:=decide (0≤ord a.2 b.2)
def iL(l:List ax):List ax:=if _:l.length<2 then l else r8 (iL (l.take (l.length/2))) (iL (l.drop (l.length/2))) iq
termination_by l.length
decreasing_by
 ·rw[dP];omega
 ·rw[g5];omega
variable{l:List ax}
theorem x9(h:l.length<2):iL l=l:=by rw[iL];simp[h]
theorem CI(h:¬l.length<2):iL l=r8 (iL (l.take (l.length/2))) (iL (l.drop (l.length/2))) iq:=by rw[iL];simp[h]
theorem z4(l:List ax):(iL l).Perm l:=by
 induction d:l.length using jG generalizing l with
 |ind n a=>
  subst d;by_cases h:l.length<2
  ·rw[x9 h]
  ·rw[CI h];refine(List.merge_perm_append iq).trans ?_;have b:=a _ (by rw[dP];omega) (l.take (l.length/2)) rfl;have c:=a _ (by rw[g5];omega) (l.drop (l.length/2)) rfl;have:=b.append c;rwa[qc]at this
theorem x8(l:List ax):(iL l).length=l.length:=(z4 l).length_eq
theorem aq_(a b c:ax)(d:iq a b=true)(e:iq b c=true):iq a c=true:=by
 simp only[iq,decide_eq_true_eq]at*;exact an_ d e
theorem aq9(a b:ax):(iq a b||iq b a)=true:=by
 simp only[iq,tq,decide_eq_true_eq];rw[GM a.2 b.2];rcases Qd a.2 b.2 with h|h|h<;>rw[h]<;>simp
theorem aqJ(l:List ax):(iL l).Pairwise fun a b=>iq a b=true:=by
 induction d:l.length using jG generalizing l with
 |ind n c=>
  subst d;by_cases h:l.length<2
  ·rw[x9 h]
   match l,h with
   |[],_=>exact .nil
   |[a],_=>simp
  ·rw[CI h];exact List.pairwise_merge aq_ aq9 _ _ (c _ (by rw[dP];omega) _ rfl) (c _ (by rw[g5];omega) _ rfl)
def gJ(c:Rat)(e:List Nat):List ax→Rat×List ax
 |[]=>(c,[])
 |t::l=>if ord e t.2=0 then gJ (c+t.1) e l else(c,t::l)
theorem yE(c:Rat)(e:List Nat)(l:List ax):(gJ c e l).2.length≤l.length:=by
 induction l generalizing c with
 |nil=>exact aF _
 |cons t l a=>
  unfold gJ;split
  ·exact cH (a _) (Nat.le_succ _)
  ·exact aF _
def bD(l:List ax):List ax:=match l with
 |[]=>[]
 |t::l=>if(gJ t.1 t.2 l).1.num≠0 then((gJ t.1 t.2 l).1,t.2)::bD (gJ t.1 t.2 l).2 else bD (gJ t.1 t.2 l).2
termination_by l.length
decreasing_by
 all_goals
  have:=yE t.1 t.2 l;simp only[cV];omega
theorem xu:bD []=[]:=by rw[bD]
theorem vv(t:ax)(l:List ax):bD (t::l)=if(gJ t.1 t.2 l).1.num≠0 then((gJ t.1 t.2 l).1,t.2)::bD (gJ t.1 t.2 l).2 else bD (gJ t.1 t.2 l).2:=by rw[bD]
def j8(l:List ax):List ax:=bD (iL l)
def Canon(l:List ax):Prop:=(l.Pairwise fun a b=>ord a.2 b.2=1)∧∀t∈l,t.1.num≠0
variable{w:Rat}
theorem Az{t:ax}(h:t∈(gJ w d l).2):t∈l:=by
 induction l generalizing w with
 |nil=>exact h
 |cons u l a=>
  unfold gJ at h;split at h
  ·exact List.mem_cons_of_mem _ (a h)
  ·exact h
theorem S1(c:Rat)(e:List Nat)(l:List ax):∃m,l=m++(gJ c e l).2:=by
 induction l generalizing c with
 |nil=>exact⟨[],rfl⟩
 |cons u l b=>
  unfold gJ;split
  ·obtain⟨m,a⟩:=b (c+u.1);exact⟨u::m,by rw[eL,←a]⟩
  ·exact⟨[],rfl⟩
theorem SZ{t:ax}{m:List ax}(h:(gJ w d l).2=t::m):ord d t.2≠0:=by
 induction l generalizing w with
 |nil=>cases h
 |cons u l b=>
  unfold gJ at h;split at h
  ·exact b h
  ·rename_i a;have h:u::l=t::m:=h;cases h;exact a
theorem Oy{t:ax}(h:t∈bD l):∃u∈l,t.2=u.2:=by
 induction d:l.length using jG generalizing l with
 |ind n e=>
  subst d;cases l with
  |nil=>rw[xu]at h;cases h
  |cons u l=>
   have hl:=yE u.1 u.2 l;have a:t∈bD (gJ u.1 u.2 l).2→∃v∈u::l,t.2=v.2:=fun h=>by
    obtain⟨v,b,c⟩:=e _ (by simp only[cV];omega) h rfl;exact⟨v,List.mem_cons_of_mem _ (Az b),c⟩
   rw[vv]at h;split at h
   ·rcases jr.1 h with h|h
    ·exact⟨u,aE,by rw[h]⟩
    ·exact a h
   ·exact a h
theorem Qc{a:List Nat}(h:0≤ord a d)(b:ord a d≠0):ord a d=1:=by
 rcases Qd a d with e|e|e
 ·rw[e]at h;exact absurd h ag
 ·exact absurd e b
 ·exact e
theorem ah8(h:l.Pairwise fun a b=>iq a b=true):Canon (bD l):=by
 induction q:l.length using jG generalizing l with
 |ind n z=>
  subst q;cases l with
  |nil=>rw[xu];exact⟨.nil,fun _ h=>by cases h⟩
  |cons u l=>
   have hl:=yE u.1 u.2 l;rw[tA]at h;obtain⟨m,p⟩:=S1 u.1 u.2 l;have f:(gJ u.1 u.2 l).2.Pairwise fun a b=>iq a b=true:=by
    have:=h.2;rw[p]at this;exact(wD.1 this).2.1
   have g:=z _ (by simp only[cV];omega) f rfl;rw[vv];split
   ·rename_i k;refine⟨tA.2 ⟨fun t ht=>?_,g.1⟩,fun t ht=>?_⟩
    ·obtain⟨v,hv,e⟩:=Oy ht;have o:0≤ord u.2 v.2:=by simpa [iq]using h.1 v (Az hv)
     show ord u.2 t.2=1;rw[e];refine Qc o fun d=>?_
     have s:=an' d;cases c:(gJ u.1 u.2 l).2 with
     |nil=>rw[c]at hv;cases hv
     |cons x r=>
      have i:=SZ c;rw[c]at hv f;rcases jr.1 hv with j|hv
      ·rw[j]at d;exact i d
      ·have y:0≤ord x.2 v.2:=by simpa [iq]using(tA.1 f).1 v hv
       have w:0≤ord u.2 x.2:=by simpa [iq]using h.1 x (Az (by rw[c];simp))
       rw[←s,GM]at y;have:=Qc w i;omega
    ·rcases jr.1 ht with e|ht
     ·rw[e];exact k
     ·exact g.2 t ht
   ·exact g
theorem aow(l:List ax):Canon (j8 l):=ah8 (aqJ l)
theorem aoA{t:ax}(h:t∈j8 l):∃u∈l,t.2=u.2:=by
 obtain⟨u,a,b⟩:=Oy h;exact⟨u,(z4 l).mem_iff.1 a,b⟩
variable{h:Nat}
theorem S0{a:Nat}(b:bg a w)(hl:∀t∈l,bg h t.1):bg (a+(h+1)*l.length) (gJ w d l).1:=by
 induction l generalizing w a with
 |nil=>simpa [gJ]using b
 |cons u l f=>
  unfold gJ;split
  ·have c:=b.add (hl u aE);have:=f c (fun t e=>hl t (by simp[e]));refine this.mono ?_;rw[cV,cr];omega
  ·exact b.mono aa
variable{a:Nat}
theorem ah_{l:List ax}(hl:∀t∈l,bg a t.1)(b:l.length≤h):∀t∈bD l,bg ((a+1)*h) t.1:=by
 induction f:l.length using jG generalizing l with
 |ind m g=>
  subst f;cases l with
  |nil=>rw[xu];intro t d;cases d
  |cons u l=>
   have i:=yE u.1 u.2 l;have c:=g _ (by simp only[cV];omega) (l:=(gJ u.1 u.2 l).2) (fun t ht=>hl t (List.mem_cons_of_mem _ (Az ht))) (by simp at b;omega) rfl;intro t ht;rw[vv]at ht;split at ht
   ·rcases jr.1 ht with e|ht
    ·rw[e];refine(S0 (hl u aE) (fun t ht=>hl t (by simp[ht]))).mono ?_;simp only[cV]at b;have:=fE (a+1) b;rw[cr]at this;omega
    ·exact c t ht
   ·exact c t ht
theorem aoB{k:Nat}(hl:∀t∈l,bg k t.1):∀t∈j8 l,bg ((k+1)*l.length) t.1:=
 ah_ (fun t a=>hl t ((z4 l).mem_iff.1 a)) (Nat.le_of_eq (x8 l))
theorem ah9(l:List ax):(bD l).length≤l.length:=by
 induction a:l.length using jG generalizing l with
 |ind n b=>
  subst a;cases l with
  |nil=>rw[xu];exact aF _
  |cons u l=>
   have hl:=yE u.1 u.2 l;have c:=b _ (by simp only[cV];omega) (gJ u.1 u.2 l).2 rfl;rw[vv];split
   ·simp only[cV];omega
   ·simp only[cV];omega
theorem aoy(l:List ax):(j8 l).length≤l.length:=by
 have:=ah9 (iL l);rwa[x8]at this
end Go.aD
namespace Go.Proofs.YtddhncjmaahodaaGreatDoor
open Go.au Go.aD
def ct(e:List Nat):List V:=e.map fun n:Nat=>V.int .i64 (n:Int)
def bI(e:List Nat):V:=.row e.length (ct e)
theorem j5(e:List Nat):(ct e).length=e.length:=by simp[ct]
variable{d:List Nat}{a:Nat}
theorem n3(h:a<d.length):cO (ct d) a=some (ah ((d.getD a 0:Nat):Int)):=by
 rw[gO];simp[ct,h]
theorem FD(l:List Nat):bX (ct l):=bX.iff.2 fun v h=>by
 simp only[ct,kT]at h;obtain⟨d,_,rfl⟩:=h;exact .int _ _
theorem ni(l:List Nat):bA (bI l):=.row _ (FD l)
@[go_sem]theorem avK(l:List Nat):c3 (bI l)=some (.val (ah (l.length:Int))):=rfl
@[go_sem]theorem avn(l:List Nat):aZ (bI l)=true:=rfl
@[go_sem]theorem auH(l:List Nat):cellsOf (bI l)=[bI l]:=rfl
@[go_sem]theorem awd(l:List Nat):V.one (bI l)=true:=rfl
theorem nV{l:List Nat}{i:Int}{k:IntKind}(h:0≤i∧i<l.length):eo none 1 [bI l,.int k i]=some (.val (.dh (ct l) i.toNat)):=by
 rw[bI,k7 h,ef]
theorem z7{l:List Nat}{i:Nat}(h:i<l.length):(l.take (i+1)).sum=(l.take i).sum+l.getD i 0:=by
 rw[kU h,List.sum_append];simp[cy,h]
theorem z6(l:List Nat)(i:Nat):(l.take i).sum≤l.sum:=by
 have:=congrArg List.sum (qc i l);rw[List.sum_append]at this;omega
theorem Cp(h:a<d.length):(d.take (a+1)).reverse=d.getD a 0::(d.take a).reverse:=by
 rw[kU h];simp[cy,h]
theorem GN(a b:List Nat)(hl:a.length=b.length)(I:a.length≤1000000000)(F:a.sum≤1000000000000)(G:b.sum≤1000000000000):aS 183 [bI a,bI b] (ah (ord a b)):=by
 refine cM (.cons (ni _) (.cons (ni _) .nil)) (.int _ _) (aT akw ?_);simp only[go_sem,d183,Yx,YD];refine bK (fun k c r=>∃i:Nat,rd 0 c=bI a∧rd 1 c=bI b∧rd 5 c=ah (((a.take i).sum:Nat):Int)∧rd 6 c=ah (((b.take i).sum:Nat):Int)∧rd 7 c=ah (i:Int)∧k=a.length-i∧i≤a.length) a.length ⟨0,?_,?_,?_,?_,?_,rfl,b4 _⟩ ?_
 iterate 2 simp only[go_sem]
 ·simp only[go_sem,q5];rfl
 ·simp only[go_sem,q5];rfl
 ·simp only[go_sem];rfl
 rintro k c r ⟨i,e,p,f,g,m,rfl,hi⟩;rw[Yy];by_cases y:i<a.length
 ·have D:=z6 a (i+1);have E:=z6 b (i+1);have d:=z7 y;have x:=z7 (l:=b) (i:=i) aa;simp(disch:=omega)only[go_sem,Yw,Yv,e,p,f,g,m,dt,nV,bH,n3,aI,true_and];refine⟨a.length-(i+1),aa,i+1,?_,?_,?_,?_,?_,rfl,aa⟩
  iterate 2 simp only[go_sem,e,p]
  ·simp only[go_sem];rw[d];rfl
  ·simp only[go_sem];rw[x];rfl
  ·simp only[go_sem];rfl
 ·have z:i=a.length:=aa;subst z;rw[b8 (aF _)]at f;rw[b8 aa]at g;by_cases u:a.sum=b.sum
  ·simp(disch:=omega)only[go_sem,Eo,YC,e,f,g,m,dt,df,aI];have n:ord a b=rl a.reverse b.reverse:=ao u;refine bK (fun k c r=>rd 0 c=bI a∧rd 1 c=bI b∧rd 8 c=ah ((k:Int)-1)∧k≤a.length∧rl (a.take k).reverse (b.take k).reverse=ord a b) a.length ⟨?_,?_,?_,aF _,?_⟩ ?_
   iterate 3 simp only[go_sem,e,p]
   ·rw[b8 (aF _),b8 aa,n]
   rintro k w C ⟨l,d,s,H,h⟩;rw[YA];cases k with
   |zero=>
    simp(disch:=omega)only[go_sem,YB,s,dt];rw[←h];rfl
   |succ j=>
    have o:rd 8 w=ah (j:Int):=by rw[s];congr 1;omega
    have A:j<a.length:=aa;have B:j<b.length:=aa;rw[Cp A,Cp B]at h;by_cases q:a.getD j 0=b.getD j 0
    ·simp(disch:=omega)only[go_sem,En,Yz,l,d,o,dt,df,nV,bH,n3,aI];refine⟨j,mq j,?_,?_,?_,aa,?_⟩
     iterate 3 simp only[go_sem,l,d]
     ·rw[←h];simp only[rl];rw[ao q]
    ·by_cases v:b.getD j 0<a.getD j 0
     ·simp(disch:=omega)only[go_sem,En,l,d,o,dt,df,nV,bH,n3];rw[←h];simp only[rl];rw[aj q,ao v]
     ·simp(disch:=omega)only[go_sem,En,l,d,o,df,nV,bH,n3];rw[←h];simp only[rl];rw[aj q,aj v]
  ·have n:ord a b=if a.sum<b.sum then-1 else 1:=aj u
   by_cases t:a.sum<b.sum
   ·simp(disch:=omega)only[go_sem,Eo,e,f,g,m,dt,df];rw[n,ao t]
   ·simp(disch:=omega)only[go_sem,Eo,e,f,g,m,df];rw[n,aj t]
def iB(t:ax):List V:=[.bool (decide (t.1.num<0)),mag (aO t.1.num.natAbs),aC,mag (aO (dd t.1)),bI t.2]
def di:List ax→List V
 |[]=>[]
 |t::l=>iB t++di l
def bJ(l:List ax):V:=.row l.length (di l)
theorem ahf(t:ax):bX (iB t):=.cons (.bool _) (.cons (j4 _) (.cons (.bool _) (.cons (j4 _) (.cons (ni _) .nil))))
variable{b:List V}
theorem lF{a:List V}(c:bX a)(d:bX b):bX (a++b):=bX.iff.2 fun v h=>by
 rcases hN.1 h with h|h
 ·exact bX.iff.1 c v h
 ·exact bX.iff.1 d v h
theorem NU:∀l,bX (di l)
 |[]=>.nil
 |t::l=>lF (ahf t) (NU l)
theorem tT(l:List ax):bA (bJ l):=.row _ (NU l)
theorem pS:∀l,(di l).length=l.length*5
 |[]=>rfl
 |t::l=>by
  simp only[di,aV,pS l,cV];have:(iB t).length=5:=rfl;omega
theorem we:∀(l m:List ax),di (l++m)=di l++di m
 |[],_=>rfl
 |t::l,m=>by simp only[eL,di,we l m,fl]
theorem arc(l:List ax)(i:Nat):(di l).take (i*5)=di (l.take i):=by
 induction l generalizing i with
 |nil=>simp[di]
 |cons t l a=>
  cases i with
  |zero=>simp[di]
  |succ i=>
   rw[oR,js];show(iB t++di l).take ((iB t).length+i*5)=iB t++di (l.take i);rw[List.take_length_add_append,a]
theorem CR(l:List ax)(i:Nat):(di l).drop (i*5)=di (l.drop i):=by
 induction l generalizing i with
 |nil=>simp[di]
 |cons t l a=>
  cases i with
  |zero=>simp[di]
  |succ i=>
   rw[oR,js];show(iB t++di l).drop ((iB t).length+i*5)=di (l.drop i);rw[List.drop_length_add_append,a]
theorem HW{l:List ax}{i:Nat}{t:ax}(h:l[i]? =some t):cj (ej (di l) (i*5)) 5=some (iB t):=by
 obtain⟨hi,rfl⟩:=gZ.1 h;rw[kj,CR,lz hi];show cj (iB l[i]++di _) 5=_;rw[eZ,ao (by simp[iB])];rfl
variable{l:List ax}
theorem HX{t:ax}(h:l[a]? =some t):cj (ej (di l) (a*5)) 4=some (bk t.1):=by
 obtain⟨hi,rfl⟩:=gZ.1 h;rw[kj,CR,lz hi];show cj (iB l[a]++di _) 4=_;rw[eZ,ao (by simp[iB])];rfl
theorem yd{t:ax}(h:l[a]? =some t):cO (di l) (a*5+4)=some (bI t.2):=by
 obtain⟨hi,rfl⟩:=gZ.1 h;have:=congrArg (fun x:List V=>x[4]?) (CR l a);simp only[uR]at this;rw[gO,this,lz hi];rfl
variable{s:Int}{o:IntKind}
theorem pq(h:0≤s∧s<l.length):eo none 5 [bJ l,.int o s]=some (.val (.dh (di l) (s.toNat*5))):=k7 h
@[go_sem]theorem avT(l:List ax):c3 (bJ l)=some (.val (ah (l.length:Int))):=rfl
@[go_sem]theorem ua(l:List ax):aZ (bJ l)=true:=rfl
@[go_sem]theorem auQ(l:List ax):cellsOf (bJ l)=[bJ l]:=rfl
@[go_sem]theorem awm(l:List ax):V.one (bJ l)=true:=rfl
theorem aqq(a:0≤s∧s≤l.length):slice3 (j_ 5) false true false [bJ l,.int o s]=some (.val (bJ (l.take s.toNat))):=by
 unfold bJ;rw[CE (pS l) a,arc,dP];rw[(aa:min s.toNat l.length=s.toNat)]
theorem aqr(a:0≤s∧s≤l.length):slice3 (j_ 5) true false false [bJ l,.int o s]=some (.val (bJ (l.drop s.toNat))):=by
 unfold bJ;rw[aqo (pS l) a,CR,g5]
def kB(n:Nat)(l:List ax):Prop:=∀t∈l,t.2.length=n∧t.2.sum≤1000000000000
theorem kB.take(h:kB a l)(i:Nat):kB a (l.take i):=fun t b=>h t (uS b)
theorem kB.drop(h:kB a l)(i:Nat):kB a (l.drop i):=fun t b=>h t (List.mem_of_mem_drop b)
theorem kB.iL(h:kB a l):kB a (iL l):=fun t b=>h t ((z4 l).mem_iff.1 b)
variable{c:af}
theorem Oh{v:V}(h:aH c 5 v (di l) a):bO c (af.zero c.next) v (bJ l):=by
 obtain⟨n,b,d⟩:=h.dQ (H2:=af.zero c.next) ag (fun _ _ _=>kR) (cD.refl _)
 rw[pS]at d;have:n=l.length:=aa;rw[this]at b;exact b
def De(a b:List ax)(k:Nat)(F:Fr)(H:af):Prop:=∃(i j:Nat) (m:List ax) (v:V) (g:Nat),k=(a.length-i)+(b.length-j)∧rd 3 F=bJ a∧rd 4 F=bJ b∧rd 5 F=v∧rd 6 F=ah (i:Int)∧rd 7 F=ah (j:Int)∧i≤a.length∧j≤b.length∧aH H 5 v (di m) g∧m.length=i+j∧m++r8 (a.drop i) (b.drop j) iq=r8 a b iq
theorem drop_cons{t:ax}(h:l[a]? =some t):l.drop a=t::l.drop (a+1):=by
 obtain⟨hi,rfl⟩:=gZ.1 h;exact lz hi
theorem am3(a b:List ax)(n:Nat)(hn:n≤1000000000)(D:kB n a)(S:kB n b)(hl:a.length+b.length≤100000000)(F:Fr)(H:af)(R:X→Fr→af→Prop)(ab:rd 3 F=bJ a)(ac:rd 4 F=bJ b)(ad:rd 5 F=.ak)(ae:rd 6 F=ah 0)(al:rd 7 F=ah 0)
 (hR:∀M O v g,rd 5 M=v→aH O 5 v (di (r8 a b iq)) g→R (.exit 0) M O):bw (.loop (pc 182 2)) R F H:=by
 refine bK (De a b) (a.length+b.length) ⟨0,0,[],.ak,0,aa,ab,ac,ad,ae,al,b4 _,b4 _,.nil,rfl,aE⟩ ?_;rintro k N P ⟨i,j,m,v,g,rfl,p,q,y,r,s,hi,hj,G,a8,f⟩;have a7:=pS m;have U:∀h t,a[i]? =some t→m++t::r8 (a.drop (i+1)) (b.drop j) iq=r8 a b iq→rd 57 h=bE→(∀t,t<8→rd t h=rd t N)→bw (pc 182 0) (iY 1 (fD (oS (De a b) ((a.length-i)+(b.length-j))) R)) h P:=by
  intro h t c I C d;have a4:i<a.length:=(gZ.1 c).1;have g3:=(d 3 ag).trans p;have w:=(d 4 ag).trans q;have A:=(d 5 ag).trans y;have x:=(d 6 ag).trans r;have bh:=(d 7 ag).trans s;have E:=HW c;simp(disch:=omega)only[go_sem,Li,C,g3,A,x,pq,bH,E];simp only[go_sem,iB];refine gA (new:=iB t) G rfl ag rfl ⟨aa,ag⟩ fun L W z K a1 a2 a3=>?_
  simp(disch:=omega)only[go_sem,x,aI];refine⟨(a.length-(i+1))+(b.length-j),aa,i+1,j,m++[t],L,z,rfl,?_,?_,?_,?_,?_,aa,hj,?_,?_,?_⟩
  iterate 3 simp only[go_sem,g3,w]
  ·simp only[go_sem];rfl
  ·simp only[go_sem,bh]
  ·rw[we];simpa [di]using K
  ·rw[aV,gP];omega
  ·rw[fl];exact I
 have V:∀h t,b[j]? =some t→m++t::r8 (a.drop i) (b.drop (j+1)) iq=r8 a b iq→rd 57 h=aC→(∀t,t<8→rd t h=rd t N)→bw (pc 182 0) (iY 1 (fD (oS (De a b) ((a.length-i)+(b.length-j))) R)) h P:=by
  intro h t c I C d;have a5:j<b.length:=(gZ.1 c).1;have g3:=(d 3 ag).trans p;have w:=(d 4 ag).trans q;have A:=(d 5 ag).trans y;have x:=(d 6 ag).trans r;have bh:=(d 7 ag).trans s;have E:=HW c;simp(disch:=omega)only[go_sem,Li,C,w,A,bh,pq,bH,E];simp only[go_sem,iB];refine gA (new:=iB t) G rfl ag rfl ⟨aa,ag⟩ fun L W z K a1 a2 a3=>?_
  simp(disch:=omega)only[go_sem,bh,aI];refine⟨(a.length-i)+(b.length-(j+1)),aa,i,j+1,m++[t],L,z,rfl,?_,?_,?_,?_,?_,hi,aa,?_,?_,?_⟩
  iterate 4 simp only[go_sem,g3,w,x]
  ·simp only[go_sem];rfl
  ·rw[we];simpa [di]using K
  ·rw[aV,gP];omega
  ·rw[fl];exact I
 rw[Yp];by_cases h1:i<a.length
 ·obtain⟨t,c⟩:∃t,a[i]? =some t:=⟨a[i],cx h1⟩;by_cases B:j<b.length
  ·obtain⟨u,o⟩:∃u,b[j]? =some u:=⟨b[j],cx B⟩;have J:t∈a:=eN c;have T:u∈b:=eN o;have ho:=GN t.2 u.2 ((D t J).1.trans (S u T).1.symm) (by rw[(D t J).1];exact hn) (D t J).2 (S u T).2;have Y:=yd c;have Z:=yd o;simp(disch:=omega)only[go_sem,Em,p,q,r,s,dt,df,pq,bH,Y,Z];refine use ho ?_;rw[drop_cons c,drop_cons o,List.cons_merge_cons]at f;by_cases Q:0≤ord t.2 u.2
   ·rw[ao (show iq t u=true from bm Q),←drop_cons o]at f;simp(disch:=omega)only[go_sem,df];refine U _ t c f ?_ (fun t c=>?_)
    ·simp only[go_sem]
    ·simp(disch:=omega)only[bU]
   ·rw[aj (show¬iq t u=true from fun e=>Q (of_decide_eq_true e)),←drop_cons c]at f;simp(disch:=omega)only[go_sem,dt];refine V _ u o f ?_ (fun t c=>?_)
    ·simp only[go_sem]
    ·simp(disch:=omega)only[bU]
  ·have a6:j=b.length:=aa;rw[drop_cons c,jF (l:=b) aa,List.merge_right]at f;simp(disch:=omega)only[go_sem,Em,p,q,r,s,dt];refine U _ t c (by rw[jF (l:=b) aa,List.merge_right];exact f) ?_ (fun t c=>?_)
   ·simp only[go_sem]
   ·simp(disch:=omega)only[bU]
 ·by_cases B:j<b.length
  ·obtain⟨u,o⟩:∃u,b[j]? =some u:=⟨b[j],cx B⟩;rw[drop_cons o,jF (l:=a) aa,List.nil_merge]at f;simp(disch:=omega)only[go_sem,Em,p,q,r,s,dt,df];refine V _ u o (by rw[jF (l:=a) aa,List.nil_merge];exact f) ?_ (fun t c=>?_)
   ·simp only[go_sem]
   ·simp(disch:=omega)only[bU]
  ·rw[jF (l:=a) aa,jF (l:=b) aa,List.merge_right,fN]at f;simp(disch:=omega)only[go_sem,p,q,r,s,df];refine hR _ _ v g ?_ (by rw[←f];exact G);simp only[go_sem,y]
theorem aqF(l:List ax)(n:Nat)(o:n≤1000000000)(a:kB n l)(hl:l.length≤100000000):aS 182 [bJ l] (bJ (iL l)):=by
 induction m:l.length using jG generalizing l with
 |ind k c=>
  subst m;refine fK (.cons (tT _) .nil) (aT akv ?_);by_cases h:l.length<2
  ·simp(disch:=omega)only[go_sem,d182,Lj,dt];rw[x9 h];exact iG rfl (tT _)
  ·have f:=c _ (by rw[dP];omega) (l.take (l.length/2)) (a.take _) (by rw[dP];omega) rfl;have i:=c _ (by rw[g5];omega) (l.drop (l.length/2)) (a.drop _) (by rw[g5];omega) rfl;have d:((l.length:Nat):Int).tdiv 2=((l.length/2:Nat):Int):=rfl;have u:l.length/2≤l.length:=ju _ _;have j:(2:Int)≠0:=ag;have p:hC (ic .quo) [ah ((l.length:Nat):Int),ah 2]=some (.val (ah ((l.length/2:Nat):Int))):=by
    rw[jK _ _ _ j,d,aI _ aa]
   have q:slice3 (j_ 5) false true false [bJ l,ah ((l.length/2:Nat):Int)]=some (.val (bJ (l.take (l.length/2)))):=by
    rw[aqq ⟨aa,aa⟩,bH]
   have r:slice3 (j_ 5) true false false [bJ l,ah ((l.length/2:Nat):Int)]=some (.val (bJ (l.drop (l.length/2)))):=by
    rw[aqr ⟨aa,aa⟩,bH]
   simp(disch:=omega)only[go_sem,d182,Lj,Yu,df,p,q,r];refine use f ?_;simp only[go_sem];refine use i ?_;simp only[go_sem,Yt,Ys,Yr];refine am3 (iL (l.take (l.length/2))) (iL (l.drop (l.length/2))) n o (a.take _).iL (a.drop _).iL (by rw[x8,x8,dP,g5];omega) _ _ _ ?_ ?_ ?_ ?_ ?_ ?_
   iterate 5 simp only[go_sem]
   intro s t v g e b;rw[fF];simp only[go_sem,Yq,e];rw[←CI h]at b;exact⟨_,Oh b,tT _,rfl⟩
theorem lD(q:Rat):V.agg (bk q)=bz q:=rfl
theorem mN(q:Rat):cj (bk q) 4=some (bk q):=rfl
theorem lZ(q:Rat):aZ (bz q)=true:=rfl
theorem lS(q:Rat):cellsOf (bz q)=bk q:=rfl
theorem l6(q:Rat):cn (bk q)=4:=rfl
theorem m8(q:Rat):cK (bk q)=true:=rfl
theorem amN(p q:Rat):cz (bk p) (bk q) 0=some (bk p):=rfl
theorem SY(s:List ax)(n q:Nat)(hn:n≤1000000000)(h:kB n s)(E:∀t∈s,bg q t.1)(hl:s.length≤100000000)(al:(q+1)*(s.length+1)≤29999999)(i b:Nat)(t:ax)(a:s[i]? =some t)(F:Fr)(H:af)(R:X→Fr→af→Prop)
 (N:rd 5 F=bJ s) (O:rd 7 F=ah (i:Int)) (P:rd 8 F=.ptr b 0) (Q:rd 9 F=ah ((i+1:Nat):Int)) (W:H.get b=.cells (bk t.1) 0)
 (J:∀(z:Fr) (l:af) (k:Nat) (c:Rat),(∀t,t<9→rd t z=rd t F)→rd 9 z=ah (k:Int)→i<k→k≤s.length→gJ t.1 t.2 (s.drop (i+1))=(c,s.drop k)→bg ((q+1)*(k-i)) c→l.get b=.cells (bk c) 0→(∀y,y≠b→l.get y=H.get y)→l.next=H.next→R (.exit 2) z l):
 bw (.loop (pc 116 2)) R F H:=by
 have hi:i<s.length:=(gZ.1 a).1;have w:t∈s:=eN a
 refine bK (fun m A o=>∃(k:Nat) (c:Rat),m=s.length-k∧(∀t,t<9→rd t A=rd t F)∧rd 9 A=ah (k:Int)∧i<k∧k≤s.length∧gJ c t.2 (s.drop k)=gJ t.1 t.2 (s.drop (i+1))∧bg ((q+1)*(k-i)) c∧o.get b=.cells (bk c) 0∧(∀y,y≠b→o.get y=H.get y)∧o.next=H.next) (s.length-(i+1))
  ⟨i+1,t.1,rfl,fun _ _=>rfl,Q,aa,aa,rfl,(E t w).mono (by rw[(aa:i+1-i=1)];omega),W,fun _ _=>rfl,rfl⟩ ?_
 rintro m A o ⟨k,c,rfl,f,d,K,L,p,v,r,D,C⟩;have B:=(f 5 ag).trans N;have V:=(f 7 ag).trans O;have G:=(f 8 ag).trans P;have T:=yd a;rw[Vy];by_cases Z:k<s.length
 ·obtain⟨u,j⟩:∃u,s[k]? =some u:=⟨s[k],cx Z⟩;have x:u∈s:=eN j;have ho:=GN t.2 u.2 ((h t w).1.trans (h u x).1.symm) (by rw[(h t w).1];exact hn) (h t w).2 (h u x).2;have U:=yd j;have S:=HX j;rw[drop_cons j]at p;simp(disch:=omega)only[go_sem,B,V,d,dt,pq,bH,T,U];refine use ho ?_;by_cases I:ord t.2 u.2=0
  ·have g:gJ (c+u.1) t.2 (s.drop (k+1))=gJ t.1 t.2 (s.drop (i+1)):=by
    rw[←p];exact(ao I).symm
   have ae:(q+1)*(k+1-i)=(q+1)*(k-i)+(q+1):=by rw[(aa:k+1-i=(k-i)+1),cr,ef]
   have ad:(q+1)*(k+1-i)≤(q+1)*(s.length+1):=fE _ aa;have Y:=xQ c u.1 v (E u x) aa;simp(disch:=omega)only[go_sem,Vu,dt,B,G,d,r,pq,bH,cG,S,mN,lD];refine use Y ?_;simp(disch:=omega)only[go_sem,Vt,lZ,lS,l6,m8,amN,G,d,r,aI];refine⟨s.length-(k+1),aa,k+1,c+u.1,rfl,fun t a=>?_,?_,aa,aa,g,?_,?_,?_,?_⟩
   ·simp(disch:=omega)only[bU];exact f t a
   ·simp only[go_sem];rfl
   ·exact(v.add (E u x)).mono aa
   ·rw[af.aK,ao rfl]
   ·intro y M;rw[af.aK,aj (fun e=>M e.symm)];exact D y M
   ·exact C
  ·have g:gJ t.1 t.2 (s.drop (i+1))=(c,s.drop k):=by
    rw[←p,drop_cons j];exact aj I
   simp(disch:=omega)only[go_sem,df];refine J _ _ k c (fun t a=>?_) ?_ K L g v r D C
   ·simp(disch:=omega)only[bU];exact f t a
   ·simp only[go_sem,d]
 ·have g:gJ t.1 t.2 (s.drop (i+1))=(c,s.drop k):=by
   rw[←p,jF aa];rfl
  simp(disch:=omega)only[go_sem,B,d,df];refine J _ _ k c (fun t a=>?_) ?_ K L g v r D C
  ·simp(disch:=omega)only[bU];exact f t a
  ·simp only[go_sem,d]
def gf(n:Nat)(l:List ax):List V:=[ah (n:Int),bJ l]
def gD(n:Nat)(l:List ax):V:=.agg (gf n l)
theorem tS(n:Nat)(l:List ax):bA (gD n l):=.agg (.cons (.int _ _) (.cons (tT _) .nil))
def SS(s:List ax)(a:Nat)(k:Nat)(F:Fr)(H:af):Prop:=∃(i:Nat) (m:List ax) (v:V) (g:Nat),k=s.length-i∧rd 4 F=.ptr 5 0∧rd 5 F=bJ s∧rd 6 F=.ptr 6 0∧rd 7 F=ah (i:Int)∧i≤s.length∧H.get 5=.cells [ah 0,.ak] 0∧H.get 6=.cells [ah (a:Int),v] 0∧aH H 5 v (di m) g∧7≤H.next∧m.length≤i∧m++bD (s.drop i)=bD s
theorem aqW(s:List ax)(n q x:Nat)(hn:n≤1000000000)(he:kB n s)(hq:∀t∈s,bg q t.1)(hl:s.length≤100000000)(a9:(q+1)*(s.length+1)≤29999999)(F:Fr)(H:af)(R:X→Fr→af→Prop)
 (T:rd 4 F=.ptr 5 0) (U:rd 5 F=bJ s) (W:rd 6 F=.ptr 6 0) (Y:rd 7 F=ah 0) (h5:H.get 5=.cells [ah 0,.ak] 0) (h6:H.get 6=.cells [ah (x:Int),.ak] 0) (h7:7≤H.next)
 (hR:∀z j v g,rd 4 z=.ptr 5 0→rd 6 z=.ptr 6 0→j.get 5=.cells [ah 0,.ak] 0→j.get 6=.cells [ah (x:Int),v] 0→aH j 5 v (di (bD s)) g→R (.exit 0) z j):
 bw (.loop (pc 116 8)) R F H:=by
 refine bK (SS s x) s.length ⟨0,[],.ak,0,rfl,T,U,W,Y,b4 _,h5,h6,.nil,h7,aF _,aE⟩ ?_;rintro k bc e ⟨i,m,v,g,rfl,E,l,G,o,hi,I,J,L,bs,bj,a⟩;rw[VD];by_cases a6:i<s.length
 ·obtain⟨t,h⟩:∃t,s[i]? =some t:=⟨s[i],cx a6⟩;have b0:t∈s:=eN h;have Z:=HX h;have ab:=yd h;have hz:cz (bk t.1) [V.bool false,.ak,aC,.ak] 0=some (bk t.1):=rfl;simp(disch:=omega)only[go_sem,VC,VB,VA,lZ,lS,l6,m8,hz,l,o,dt,pq,bH,cG,Z,lD,aI];refine SY s n q hn he hq hl a9 i e.next t h _ _ _ ?_ ?_ ?_ ?_ ?_ ?_
  iterate 3 simp only[go_sem,l,o]
  ·simp only[go_sem];rfl
  ·rw[af.aK,ao rfl]
  intro d f k c b nW be M aw bv K ap am;have N:rd 4 d=.ptr 5 0:=by rw[b 4 ag];simp only[go_sem,E]
  have C:rd 5 d=bJ s:=by rw[b 5 ag];simp only[go_sem,l]
  have u:rd 6 d=.ptr 6 0:=by rw[b 6 ag];simp only[go_sem,G]
  have fU:rd 7 d=ah (i:Int):=by rw[b 7 ag];simp only[go_sem,o]
  have mK:rd 8 d=.ptr e.next 0:=by rw[b 8 ag];simp only[go_sem]
  clear b;have A:∀y,y<e.next→f.get y=e.get y:=by
   intro y hy;rw[ap y aa,af.aK,aj aa,af.aY,aj aa]
  have bo:f.next=e.next+1:=am
  have D:f.get 5=.cells [ah 0,.ak] 0:=(A 5 aa).trans I;have w:f.get 6=.cells [ah (x:Int),v] 0:=(A 6 aa).trans J;have r:aH f 5 v (di m) g:=L.low A aa;have bi:=pS m;have a5:bD (s.drop i)=if c.num≠0 then(c,t.2)::bD (s.drop k)else bD (s.drop k):=by
   rw[drop_cons h,vv,aw]
  rw[a5]at a;rw[fF];simp only[go_sem,Vz,mK,K,mN,lD];refine use (zU c) ?_;by_cases p:c.num=0
  ·have B:(if c.num<0 then(-1:Int)else if c.num=0 then 0 else 1)=0:=by rw[aj aa,ao p]
   rw[aj (by simpa using p)]at a;simp(disch:=omega)only[go_sem,KQ,B,decide_true,nW];refine⟨s.length-k,aa,k,m,v,g,rfl,?_,?_,?_,?_,M,D,w,r,aa,aa,a⟩
   iterate 4 simp only[go_sem,N,C,u]
  ·have B:decide ((if c.num<0 then(-1:Int)else if c.num=0 then 0 else 1)=0)=false:=by
    refine a_ ?_;rw[aj p];split<;>decide
   rw[ao p]at a;have a0:cz (bk c) [V.bool false,.ak,aC,.ak,.ak] 0=some (bk c++[.ak]):=rfl;have a1:cz [bI t.2] (bk c++[V.ak]) 4=some (bk c++[bI t.2]):=rfl;have a2:nu (bk c++[bI t.2]) [V.bool false,.ak,aC,.ak,.ak]=some (iB (c,t.2)):=rfl;have a3:cn (bk c++[bI t.2])=5:=rfl;simp(disch:=omega)only[go_sem,lZ,lS,l6,a0,a1,a2,a3,B,C,u,fU,mK,K,w,mN,lD,pq,bH,ab];refine gA (bytes:=88) (new:=iB (c,t.2)) r rfl ag rfl ⟨aa,ag⟩ fun v2 H3 g2 O b2 P b'=>?_
   obtain⟨S,n2,rfl⟩:=O.slice aa;have bb:=(P 5 aa (r.ne D)).trans D;have Q:=(P 6 aa (r.ne w)).trans w;simp(disch:=omega)only[go_sem,KQ,u,nW,Q];refine⟨s.length-k,aa,k,m++[(c,t.2)],.slice S 0 n2 (.grown 5),g2,rfl,?_,?_,?_,?_,M,?_,?_,?_,?_,?_,?_⟩
   iterate 4 simp only[go_sem,N,C,u]
   ·rw[af.aK,aj ag];exact bb
   ·rw[af.aK,ao rfl]
   ·refine aH.set ?_ Q _;rw[we];simpa [di]using O
   ·rw[jl];omega
   ·rw[aV,gP];omega
   ·rw[fl];exact a
 ·rw[jF aa,xu,fN]at a;simp(disch:=omega)only[go_sem,l,o,df];refine hR _ _ v g ?_ ?_ I J (by rw[←a];exact L)
  iterate 2 simp only[go_sem,E,G]
variable{h:Nat}
theorem ahG{v:V}(b:aH c 5 v (di l) a):∃u,bO c (af.zero c.next) (.agg [ah (h:Int),v]) u∧bA u∧u=gD h l:=
 ⟨_,.agg (.cons (.same _) (.cons (Oh b) .nil)),tS _ _,rfl⟩
theorem HR(l:List ax)(n q b:Nat)(e:n≤1000000000)(d:kB n l)(m:∀t∈l,bg q t.1)(hl:l.length≤100000000)(o:(q+1)*(l.length+1)≤29999999):aS 116 [ah (b:Int),bJ l] (gD b (j8 l)):=by
 refine fK (.cons (.int _ _) (.cons (tT _) .nil)) (aT ajZ ?_);simp only[go_sem,d116,Vx];refine use (aqF l n e d hl) ?_;simp only[go_sem,Vw,Vv];refine aqW (iL l) n q b e d.iL (fun t p=>m t ((z4 l).mem_iff.1 p)) (by rw[x8];exact hl) (by rw[x8];exact o) _ _ _ ?_ ?_ ?_ ?_ ?_ ?_ ?_ ?_
 iterate 6 simp only[go_sem]
 ·exact aF 7
 intro r s v g h i c j a;have w:aZ v=true:=by generalize di (bD (iL l))=f at a;cases a<;>rfl
 have u:cellsOf v=[v]:=by generalize di (bD (iL l))=f at a;cases a<;>rfl
 have k:V.one v=true:=by generalize di (bD (iL l))=f at a;cases a<;>rfl
 rw[fF];simp only[go_sem,VE,h,i,c,j,k];exact ahG (a.set c _)
def mm(l:List Int):V:=.row l.length (l.map fun z=>V.int .i64 z)
def cJ(l:List Int)(i:Nat):List V:=[mm l,ah (i:Int)]
def ir(l:List Int):Prop:=∀z∈l,-9223372036854775808≤z∧z<9223372036854775808
theorem NZ(l:List Int):bA (mm l):=.row _ (bX.iff.2 fun v h=>by
 simp only[kT]at h;obtain⟨d,_,rfl⟩:=h;exact .int _ _)
theorem Bq(l:List Int)(i:Nat):bX (cJ l i):=.cons (NZ l) (.cons (.int _ _) .nil)
@[go_sem]theorem avX(l:List Int):c3 (mm l)=some (.val (ah (l.length:Int))):=rfl
variable{N:List Int}
theorem ai5(h:0≤s∧s<N.length):eo none 1 [mm N,.int o s]=some (.val (.dh (N.map fun z=>V.int .i64 z) s.toNat)):=by
 rw[mm,k7 h,ef]
theorem amr(h:a<N.length):cO (N.map fun z=>V.int .i64 z) a=some (ah (N.getD a 0)):=by
 rw[gO];simp[h]
def lC(l:List Int)(f:Nat)(d:List V)(R:V→Prop):Prop:=∀(H:af) (b i:Nat),5≤b→i≤l.length→H.get b=.cells (cJ l i) 0→
 c5 f (.ptr b 0::d) H fun v c=>R v∧∃a,a≤l.length∧c=H.set b (.cells (cJ l a) 0)
theorem n8{R:V→Prop}(o:bX b)
 (h:∀i,i≤N.length→c5 a (.ptr 5 0::b) (af.one 5 6 (cJ N i)) fun k d=>∃c v,c≤N.length∧d.get 5=.cells (cJ N c) 0∧bO d (af.one 5 d.next (cJ N c)) k v∧bA v∧R v):lC N a b R:=by
 intro H e i p hi q;refine(Kk (R:=fun v j=>R v∧∃c,c≤N.length∧j=cJ N c) q (Bq N i) p ⟨0,aE⟩ (args2:=.ptr 5 0::b) (.cons ?_ (jZ.free o)) ?_).mono ?_
 ·have:=g7.ptr (σ:=oq 5 e) (k:=5+1) (b:=5) 0 ag;rwa[show oq 5 e 5=e from ao rfl]at this
 ·refine(h i hi).mono ?_;rintro k d ⟨c,v,f,g,l,m,n⟩;exact⟨v,cJ N c,g,Bq N c,l,m,n,c,f,rfl⟩
 ·rintro v d ⟨j,⟨f,c,g,rfl⟩,rfl⟩;exact⟨f,c,g,rfl⟩
variable{i:Option Nat}{e:Fr→af→Prop}{m:Fr}{u:Nat}
theorem eV{R:V→Prop}(g:lC N a b R)(l:5≤h)(hi:u≤N.length)(n:c.get h=.cells (cJ N u) 0)
 (o:∀v d,R v→d≤N.length→e (put m i v) (c.set h (.cells (cJ N d) 0))):oM eO 5 i e m c (some (.fn a,.ptr h 0::b)):=
 (g c h u l hi n).mono fun v p ⟨j,d,k,f⟩=>by rw[f];exact o v d j k
theorem mI(n:Nat)(a:List V):(af.one 5 n a).get 5=.cells a 0:=by rw[af.k6,ao rfl]
theorem c4(n:Nat)(a:List V):(af.one 5 n a).next=n:=rfl
theorem aq'(v n:Int)(a:0<n):(v.tmod n+n).tmod n=v%n:=by
 have b: -n<v.tmod n:=by
  have:=Int.lt_tmod_of_pos v a;omega
 rw[Int.tmod_eq_emod_of_nonneg aa,Int.add_emod_right,Int.tmod_eq_emod];split
 ·simp
 ·rw[(aa:((n.natAbs:Nat):Int)=n),Int.sub_emod_right,Int.emod_emod]
theorem k_(l:List Int)(hl:l.length≤400)(m:ir l)(n:Nat)(e:0<n∧n≤1048576):lC l 11 [ah (n:Int)] fun v=>∃k:Nat,k<n∧v=ah (k:Int):=by
 refine n8 (.cons (.int _ _) .nil) fun i hi=>aT qB ?_
 by_cases h:i<l.length
 ·have o:=m (l.getD i 0) (by
   rw[cy,cx h];exact wB h)
  obtain⟨z,c⟩:∃z,z=l.getD i 0:=⟨_,rfl⟩;rw[←c]at o;have d:cO (l.map fun z=>V.int .i64 z) i=some (ah z):=by rw[c];exact amr h
  have f:((n:Nat):Int)≠0:=aa;have g:=Int.lt_tmod_of_pos z (aa:(0:Int)<n);have j:=Int.tmod_lt_of_pos z (aa:(0:Int)<n);have a:=aq' z n aa;have p:=Int.emod_nonneg z f;have q:=Int.emod_lt_of_pos z (aa:(0:Int)<n);obtain⟨x,b⟩:∃x,x=z.tmod n:=⟨_,rfl⟩;rw[←b]at g j a;simp(disch:=omega)only[go_sem,d11,KS,VU,VT,VS,cJ,mI,dt,eJ,ai5,bH,d,aI,mC,←b];refine⟨i+1,_,aa,?_,.same _,.int _ _,(z%n).toNat,aa,?_⟩
  ·rfl
  ·rw[a];congr 1;omega
 ·simp(disch:=omega)only[go_sem,d11,KS,cJ,mI,df,eJ];exact⟨i,_,hi,rfl,.same _,.int _ _,0,e.1,rfl⟩
theorem RF(n d:Int)(e:n.natAbs≤9)(c:0<d∧d≤4):bg 4 (nM n d):=by
 obtain⟨k,rfl⟩:∃k:Nat,d=k:=⟨d.natAbs,aa⟩;rw[uZ];obtain⟨a,b⟩:=mk_le n (m:=k) aa;exact⟨aa,aa⟩
theorem x7(h:a<1024):ey a:=ey.of (k:=10) aa ag
def SO(k:Nat)(v:V):Prop:=∃q:Rat,bg k q∧v=bz q
theorem jj(q:Rat):cz (bk q) [V.bool false,.ak,aC,.ak] 0=some (bk q):=rfl
theorem Cb(l:List Int)(hl:l.length≤400)(a:ir l):lC l 42 [] (SO 4):=by
 refine n8 .nil fun i hi=>aT alC ?_
 simp only[go_sem,d42,adR];refine eV (k_ l hl a 19 ag) ag hi ?_ ?_
 ·simp only[go_sem,mI,c4]
 rintro _ j ⟨e,g,rfl⟩ b;simp(disch:=omega)only[go_sem,adQ,aI];refine use (tV _ aa) ?_;simp only[go_sem];refine eV (k_ l hl a 4 ag) ag b ?_ ?_
 ·simp only[go_sem]
 rintro _ d ⟨f,h,rfl⟩ c;simp(disch:=omega)only[go_sem,aI];refine use (tV _ aa) ?_;simp only[go_sem];refine use (xp ((e:Int)-9) (1+(f:Int)) aa (x7 aa) (x7 aa)) ?_;simp only[go_sem,c4,lZ,lS,l6,m8,jj,dA,mN,lD];refine⟨d,_,c,?_,.same _,fT _,_,RF _ _ aa aa,rfl⟩;simp only[go_sem]
theorem aoq(l:List Int)(hl:l.length≤400)(e:ir l):lC l 53 [] (fun v=>∃q:Rat,bg 4 q∧0<q.num∧v=bz q):=by
 refine n8 .nil fun i hi=>aT alJ ?_
 simp only[go_sem,d53,aem];refine eV (k_ l hl e 9 ag) ag hi ?_ ?_
 ·simp only[go_sem,mI,c4]
 rintro _ p ⟨a,n,rfl⟩ g;simp(disch:=omega)only[go_sem,aI];refine use (tV _ aa) ?_;simp only[go_sem];refine eV (k_ l hl e 4 ag) ag g ?_ ?_
 ·simp only[go_sem]
 rintro _ m ⟨d,o,rfl⟩ h;simp(disch:=omega)only[go_sem,aI];refine use (tV _ aa) ?_;simp only[go_sem];refine use (xp (1+(a:Int)) (1+(d:Int)) aa (x7 aa) (x7 aa)) ?_;simp only[go_sem,c4,lZ,lS,l6,m8,jj,dA,mN,lD];refine⟨m,_,h,?_,.same _,fT _,_,RF _ _ aa aa,?_,rfl⟩
 ·simp only[go_sem]
 ·obtain⟨k,j⟩:∃k:Nat,1+(d:Int)=k:=⟨1+d,aa⟩;rw[j,uZ,zq _ aa];have b:0<cu (1+(a:Int)).natAbs k:=Nat.gcd_pos_of_pos_right _ aa;have c:cu (1+(a:Int)).natAbs k≤(1+(a:Int)).natAbs:=Nat.gcd_le_left _ aa;have f:(1+(a:Int))=(((1+a:Nat)):Int):=aa;rw[f]at c b⊢;rw[d_]at c b⊢;have:0<(1+a)/cu (1+a) k:=Nat.div_pos c b;show 0<(((1+a)/cu (1+a) k:Nat):Int);omega
theorem Ik(l:List Int)(hl:l.length≤400)(b:ir l)(k:Nat)(f:k≤100):lC l 52 [ah (k:Int)] (fun v=>∃z:Int,-(k:Int)≤z∧z≤k∧v=bz (z:Rat)):=by
 refine n8 (.cons (.int _ _) .nil) fun i hi=>aT alI ?_
 have e:(2:Int)*(k:Int)+1=((2*k+1:Nat):Int):=aa;simp(disch:=omega)only[go_sem,d52,ael,aI,e];refine eV (k_ l hl b (2*k+1) ⟨aa,aa⟩) ag hi ?_ ?_
 ·simp only[go_sem,mI,c4]
 rintro _ c ⟨d,g,rfl⟩ a;simp(disch:=omega)only[go_sem,aI];refine use (zO _ aa) ?_;simp only[go_sem,c4,lZ,lS,l6,m8,jj,dA,mN,lD];refine⟨c,_,a,?_,.same _,fT _,(d:Int)-k,aa,aa,rfl⟩;simp only[go_sem]
def p0:jS:=D2 5 nK qj qH 300
theorem qW:oL eO 5 p0:=Kj hT b5 PU gb 300
def BL(l:List (List Nat)):List V:=l.map bI
def qA(l:List (List Nat)):V:=.row l.length (BL l)
def n4:Nat→List (List Nat)
 |1=>[[0],[1],[2]]
 |_=>[[0,0],[0,1],[1,0],[0,2],[1,1],[2,0]]
theorem amu:pL 5 p0 153 [ah 1,ah 2] (qA (n4 1))=true:=by kernel_rfl
theorem amw:pL 5 p0 153 [ah 2,ah 2] (qA (n4 2))=true:=by kernel_rfl
theorem amx(n:Nat)(h:n=1∨n=2):aS 153 [ah (n:Int),ah 2] (qA (n4 n)):=by
 rcases h with rfl|rfl
 ·exact rP qW amu
 ·exact rP qW amw
def vH:Nat→List (List Nat)
 |1=>[[0],[1]]
 |_=>[[0,0],[0,1],[1,0]]
theorem amt:pL 5 p0 153 [ah 1,ah 1] (qA (vH 1))=true:=by kernel_rfl
theorem amv:pL 5 p0 153 [ah 2,ah 1] (qA (vH 2))=true:=by kernel_rfl
theorem amy(n:Nat)(h:n=1∨n=2):aS 153 [ah (n:Int),ah 1] (qA (vH n)):=by
 rcases h with rfl|rfl
 ·exact rP qW amt
 ·exact rP qW amv
@[go_sem]theorem avL(l:List (List Nat)):c3 (qA l)=some (.val (ah (l.length:Int))):=rfl
theorem ai3{l:List (List Nat)}(h:0≤s∧s<l.length):eo none 1 [qA l,.int o s]=some (.val (.dh (BL l) s.toNat)):=by
 rw[qA,k7 h,ef]
theorem amq{l:List (List Nat)}(h:l[a]? =some d):cO (BL l) a=some (bI d):=by
 rw[gO,BL,iW,h];rfl
theorem B4(b:a=1∨a=2):∀e∈n4 a,e.length=a∧e.sum≤2:=by
 rcases b with rfl|rfl<;>decide
theorem am8(b:a=1∨a=2):0<(n4 a).length∧(n4 a).length≤6:=by
 rcases b with rfl|rfl<;>decide
def qZ(n k:Nat)(p:List ax):Prop:=Canon p∧(∀t∈p,t.2∈n4 n∧bg (5*k) t.1)∧p.length≤k
def nJ(H:af):Prop:=∀y,y<5→H.get y=.none
def Dh(M:List (List Nat))(l:List Int)(n a:Nat)(j:Nat)(F:Fr)(H:af):Prop:=∃(i:Nat) (m:List ax) (v:V) (g:Nat),i≤l.length∧rd 0 F=.ptr 5 0∧rd 1 F=ah (n:Int)∧rd 8 F=.ptr 6 0∧rd 9 F=qA M∧rd 10 F=v∧rd 11 F=ah (j:Int)∧
 H.get 5=.cells (cJ l i) 0∧H.get 6=.cells [ah 0,.ak] 0∧nJ H∧aH H 5 v (di m) g∧m.length+j≤a∧(∀t∈m,t.2∈n4 n∧bg 4 t.1)∧7≤H.next
theorem nJ.keep{H':af}(h:nJ c)(b:∀y,y<5→H'.get y=c.get y):nJ H':=fun y a=>(b y a).trans (h y a)
theorem nJ.set(h:nJ c)(b:5≤a)(o:cR):nJ (c.set a o):=h.keep fun y d=>by rw[af.aK,aj aa]
theorem amM(n:Nat)(a:List V):nJ (af.one 5 n a):=fun y b=>by rw[af.k6,aj aa]
theorem nJ.push(h:nJ c)(a:5≤c.next)(o:cR):nJ (c.push o):=h.keep fun y b=>by rw[af.aY,aj aa]
theorem aop(M:List (List Nat))(W:0<M.length∧M.length≤6)(hs:∀e∈M,e∈n4 a)(l:List Int)(hl:l.length≤400)(O:ir l)(r:Nat)(L:r≤10)(F:Fr)(H:af)(R:X→Fr→af→Prop)(j:Nat)(U:Dh M l a r j F H)
 (Y:∀B C,Dh M l a r 0 B C→R (.exit 0) B C):bw (.loop (pc 98 2)) R F H:=by
 refine bK (Dh M l a r) j U ?_;rintro j a' s ⟨i,m,v,g,hi,d,D,G,u,E,n,w,I,A,x,hm,K,a1⟩;rw[afI];cases j with
 |zero=>
  simp(disch:=omega)only[go_sem,n,jU,df];refine Y _ _ ⟨i,m,v,g,hi,?_,?_,?_,?_,?_,?_,w,I,A,x,hm,K,a1⟩
  iterate 6 simp only[go_sem,d,D,G,u,E,n]
 |succ j=>
  obtain⟨a0,bb⟩:=W;simp(disch:=omega)only[go_sem,afH,d,E,n,dt];refine eV (Cb l hl O) ag hi w ?_;rintro _ o ⟨q,hq,rfl⟩ al;simp(disch:=omega)only[go_sem,d,u];refine eV (k_ l hl O M.length ⟨a0,aa⟩) ag al ?_ ?_
  ·simp only[go_sem]
  rintro _ c ⟨k,hk,rfl⟩ am;obtain⟨e,J⟩:∃e,M[k]? =some e:=⟨M[k],cx hk⟩;have ae:e∈n4 a:=hs e (eN J);have ar:=amq J;have Z:cz (bk q) [V.bool false,.ak,aC,.ak,.ak] 0=some (bk q++[.ak]):=rfl;have ab:cz [bI e] (bk q++[V.ak]) 4=some (iB (q,e)):=rfl;have ac:nu (iB (q,e)) [V.bool false,.ak,aC,.ak,.ak]=some (iB (q,e)):=rfl;have ad:cn (iB (q,e))=5:=rfl;have ba:=pS m;simp(disch:=omega)only[go_sem,lZ,lS,l6,Z,ab,ac,ad,ai3,bH,ar];have z:aH ((s.set 5 (.cells (cJ l o) 0)).set 5 (.cells (cJ l c) 0)) 5 v (di m) g:=(x.set w _).set (cs:=cJ l o) (by rw[af.aK,ao rfl]) _;refine gA (bytes:=88) (new:=iB (q,e)) z rfl ag rfl ⟨aa,ag⟩ fun v2 S T q1 a5 p a6=>?_
  have P:((s.set 5 (.cells (cJ l o) 0)).set 5 (.cells (cJ l c) 0)).get 5=.cells (cJ l c) 0:=by rw[af.aK,ao rfl]
  have Q:((s.set 5 (.cells (cJ l o) 0)).set 5 (.cells (cJ l c) 0)).get 6=.cells [ah 0,.ak] 0:=by rw[af.aK,aj ag,af.aK,aj ag];exact I
  simp only[jl]at a5 p a6;have a7:=(p 5 aa (z.ne P)).trans P;have a8:=(p 6 aa (z.ne Q)).trans Q;have rl:nJ S:=by
   intro y N;rw[p y aa (x.tO fun b f e=>by rw[A y N]at e;cases e),af.aK,aj aa,af.aK,aj aa];exact A y N
  simp(disch:=omega)only[go_sem,afG,n,aI];refine⟨j,mq j,c,m++[(q,e)],v2,T,am,?_,?_,?_,?_,?_,?_,a7,a8,rl,?_,?_,?_,aa⟩
  iterate 5 simp only[go_sem,d,D,G,u]
  ·simp only[go_sem];congr 1;omega
  ·rw[we];simpa [di]using q1
  ·rw[aV,gP];omega
  ·intro t L;rcases hN.1 L with h|h
   ·exact K t h
   ·rw[ec.1 h];exact⟨ae,hq⟩
theorem amL{a:List V}(h:nJ c)(i:c.get 5=.cells a 0)(j:c.get 6=.cells b 0):∀y d g,y<7→c.get y=.cells d g→g=0:=by
 intro y d g k e;by_cases f:y<5
 ·rw[h y f]at e;cases e
 ·rcases(aa:y=5∨y=6)with rfl|rfl
  ·rw[i]at e;cases e;rfl
  ·rw[j]at e;cases e;rfl
theorem ag1(c:a=1∨a=2)(h:∀t∈l,t.2∈n4 a):kB a l:=fun t d=>by
 obtain⟨b,e⟩:=B4 c t.2 (h t d);exact⟨b,aa⟩
theorem Qi(M:List (List Nat))(F:0<M.length∧M.length≤6)(d:Int)(l:List Int)(hl:l.length≤400)(s:ir l)(n b:Nat)(K:n=1∨n=2)(L:∀e∈M,e∈n4 n)(E:aS 153 [ah (n:Int),ah d] (qA M))(a:0<b∧b≤10):lC l 98 [ah (n:Int),ah d,ah (b:Int)] fun v=>∃p,qZ n b p∧v=gD n p:=by
 refine n8 (.cons (.int _ _) (.cons (.int _ _) (.cons (.int _ _) .nil))) fun i hi=>D5 hT b5 gb O6.1 O6.2 (by kernel_rfl) 4 39 rfl rfl ?_
 have A:((b:Int)+1)=((b+1:Nat):Int):=aa;simp only[go_sem,d98,afM,afL,afK,aP.cutAt];refine use E ?_;simp(disch:=omega)only[go_sem,aI,A];refine eV (k_ l hl s (b+1) ⟨aa,aa⟩) ag hi ?_ ?_
 ·simp only[go_sem,mI,c4]
 rintro _ P ⟨k,W,rfl⟩ H;simp only[go_sem];refine aop M F L l hl s b a.2 _ _ _ k ⟨P,[],.ak,0,H,?_,?_,?_,?_,?_,?_,?_,?_,?_,.nil,by simp;omega,(fun t h=>by cases h),?_⟩ ?_
 iterate 8 simp only[go_sem,c4]
 ·exact nJ.set ((amM _ _).push (by rw[c4];decide) _) ag _
 ·exact aF 7
 rintro c j ⟨w,m,v,g,I,T,B,D,V,C,U,o,q,J,G,X,f,Y⟩;have r:=amL J o q;rw[fF];simp only[go_sem];refine Ii (j.low 7) (fun t=>if t=10 then bJ m else if t=1∨t=8 then rd t c else .any) (Ec (by rw[c4];decide) r) (fun t a=>?_) ?_
 ·show bO _ _ _ (if t=10 then _ else _);by_cases h:t=10
  ·subst h;rw[ao rfl,C];exact G.FT ag r (pS m)
  ·rw[aj h];split
   ·exact .same _
   ·exact .any _
 have x:rd 1 (k9 (fun t=>if t=10 then bJ m else if t=1∨t=8 then rd t c else .any) 39)=ah (n:Int):=by rw[qI _ ag];exact B
 have z:rd 8 (k9 (fun t=>if t=10 then bJ m else if t=1∨t=8 then rd t c else .any) 39)=.ptr 6 0:=by rw[qI _ ag];exact D
 have y:rd 10 (k9 (fun t=>if t=10 then bJ m else if t=1∨t=8 then rd t c else .any) 39)=bJ m:=by rw[qI _ ag];rfl
 generalize k9 (fun t=>if t=10 then bJ m else if t=1∨t=8 then rd t c else .any) 39=S at x z y
 have Q:(j.low 7).get 5=.cells (cJ l w) 0:=by rw[af.qt,ao ag];exact o
 have R:(j.low 7).get 6=.cells [ah 0,.ak] 0:=by rw[af.qt,ao ag];exact q
 have N:=HR m n 4 n aa (ag1 K fun t a=>(f t a).1) (fun t a=>(f t a).2) aa (by
  have:=fE (4+1) (aa:m.length+1≤11);omega)
 simp only[go_sem,afJ,x,y];refine use N ?_;simp only[go_sem,gD,gf,z,R];refine⟨w,_,I,?_,.same _,tS _ _,j8 m,⟨aow m,fun t a=>?_,?_⟩,rfl⟩
 ·simp only[go_sem,Q]
 ·obtain⟨u,O,e⟩:=aoA a;refine⟨by rw[e];exact(f u O).1,?_⟩;refine(aoB (k:=4) (fun t a=>(f t a).2) t a).mono ?_;have:=fE (4+1) (aa:m.length≤b);omega
 ·have:=aoy m;omega
theorem GS(l:List Int)(hl:l.length≤400)(d:ir l)(n a:Nat)(b:n=1∨n=2)(c:0<a∧a≤10):lC l 98 [ah (n:Int),ah 2,ah (a:Int)] fun v=>∃p,qZ n a p∧v=gD n p:=
 Qi (n4 n) (am8 b) 2 l hl d n a b (fun _ h=>h) (amx n b) c
def pH(n:Nat)(p:List ax):List V:=[ah (n:Int),bJ p]
def fq(n:Nat):List (List ax)→List V
 |[]=>[]
 |p::l=>pH n p++fq n l
def gd(n:Nat)(l:List (List ax)):V:=.row l.length (fq n l)
theorem rL(n:Nat):∀l,(fq n l).length=l.length*2
 |[]=>rfl
 |p::l=>by
  simp only[fq,aV,rL n l,cV];have:(pH n p).length=2:=rfl;omega
theorem zJ(n:Nat):∀(l m:List (List ax)),fq n (l++m)=fq n l++fq n m
 |[],_=>rfl
 |t::l,m=>by simp only[eL,fq,zJ n l m,fl]
theorem NR(n:Nat):∀l,bX (fq n l)
 |[]=>.nil
 |p::l=>lF (.cons (.int _ _) (.cons (tT _) .nil)) (NR n l)
theorem FF(n:Nat)(l:List (List ax)):bA (gd n l):=.row _ (NR n l)
end Go.Proofs.YtddhncjmaahodaaGreatDoor
namespace Go.au
variable{c:af}{a:Nat}{b:List V}{h:Nat}
theorem aH.aZ{v:V}(d:aH c a v b h):aZ v=true∧cellsOf v=[v]∧V.one v=true:=by cases d<;>exact⟨rfl,rfl,rfl⟩
end Go.au
namespace Go.Proofs.YtddhncjmaahodaaGreatDoor
open Go.au Go.aD
def IG(l:List Int)(n:Nat)(g:List ax)(d c:List (List ax))(f e:V)(b a:Nat)(H:af):Prop:=∃i,i≤l.length∧H.get 5=.cells (cJ l i) 0∧H.get 6=.cells [ah 0,ah 0,.ak,.ak,.ak] 0∧H.get 7=.cells [ah (n:Int),ah (n:Int),bJ g,f,e] 0∧
 aH H 2 f (fq n d) b∧aH H 2 e (fq n c) a∧(a=0∨a≠b)∧8≤H.next∧b<H.next∧(∀p∈d,qZ n 2 p)∧(∀p∈c,qZ n 2 p)
def IF(n:Nat)(F:Fr):Prop:=rd 0 F=.ptr 5 0∧rd 1 F=ah (n:Int)∧rd 2 F=ah 2∧rd 6 F=.ptr 6 0∧rd 7 F=.ptr 7 0
def Di(l:List Int)(n:Nat)(c:List ax)(j:Nat)(F:Fr)(H:af):Prop:=∃a d b,IF n F∧rd 8 F=ah (j:Int)∧a.length+j≤2∧IG l n c a [] d .ak b 0 H
def Dj(l:List Int)(n:Nat)(e:List ax)(d:List (List ax))(g:V)(c:Nat)(j:Nat)(F:Fr)(H:af):Prop:=∃a f b,IF n F∧rd 9 F=ah (j:Int)∧a.length+j≤1∧IG l n e d a g f c b H
theorem aot(l:List Int)(hl:l.length≤400)(hz:ir l)(n:Nat)(V:n=1∨n=2)(g:List ax)(F:Fr)(H:af)(R:X→Fr→af→Prop)(j:Nat)(O:Di l n g j F H)
 (P:∀x y,Di l n g 0 x y→R (.exit 0) x y):bw (.loop (pc 47 2)) R F H:=by
 refine bK (Di l n g) j O ?_;rintro j ap c ⟨b,w,G,⟨o,r,s,C,d⟩,e,U,i,hi,t,E,bh,u,Q,W,Y,S,J,I⟩;rw[ad0];cases j with
 |zero=>
  simp(disch:=omega)only[go_sem,e,jU,df];refine P _ _ ⟨b,w,G,⟨?_,?_,?_,?_,?_⟩,?_,U,i,hi,t,E,bh,u,Q,W,Y,S,J,I⟩
  iterate 6 simp only[go_sem,o,r,s,C,d,e]
 |succ j=>
  obtain⟨k1,k2,bB⟩:=u.aZ;have ar:=rL n b;simp(disch:=omega)only[go_sem,adZ,o,r,s,d,e,bh,dt];refine eV (GS l hl hz n 2 V ag) ag hi t ?_;rintro _ a ⟨p,Z,rfl⟩ T;have aw:gD n p=.agg (pH n p):=rfl;simp(disch:=omega)only[go_sem,gD,gf,bh,true_and];have f:aH (c.set 5 (.cells (cJ l a) 0)) 2 w (fq n b) G:=u.set t _;refine gA (bytes:=32) (new:=pH n p) f rfl ag rfl ⟨aa,ag⟩ fun v2 M D k K m ae=>?_
  obtain⟨N,n2,rfl⟩:=k.slice (by rw[jl]at K;omega);have z:(c.set 5 (.cells (cJ l a) 0)).get 5=.cells (cJ l a) 0:=by rw[af.aK,ao rfl]
  have A:(c.set 5 (.cells (cJ l a) 0)).get 6=.cells [ah 0,ah 0,.ak,.ak,.ak] 0:=by rw[af.aK,aj ag];exact E
  have B:(c.set 5 (.cells (cJ l a) 0)).get 7=.cells [ah (n:Int),ah (n:Int),bJ g,w,.ak] 0:=by rw[af.aK,aj ag];exact bh
  simp only[jl]at K m ae;have al:=(m 5 aa (f.ne z)).trans z;have am:=(m 6 aa (f.ne A)).trans A;have L:=(m 7 aa (f.ne B)).trans B;have v:D<M.next:=by
   generalize fq n b++pH n p=xs at k
   cases k with
   |cells _ _ _ _ _ v _=>exact v
  simp(disch:=omega)only[go_sem,adY,d,e,L,aI];refine⟨j,mq j,b++[p],.slice N 0 n2 (.grown 2),D,⟨?_,?_,?_,?_,?_⟩,?_,?_,a,T,?_,?_,?_,?_,.nil,.inl rfl,?_,?_,?_,I⟩
  iterate 5 simp only[go_sem,o,r,s,C,d]
  ·simp only[go_sem];congr 1;omega
  ·rw[aV,gP];omega
  ·rw[af.aK,aj ag];exact al
  ·rw[af.aK,aj ag];exact am
  ·rw[af.aK,ao rfl]
  ·refine aH.set ?_ L _;rw[zJ];simpa [fq]using k
  ·rw[jl];omega
  ·rw[jl];exact v
  ·intro q hq;rcases hN.1 hq with h|h
   ·exact J q h
   ·rw[ec.1 h];exact Z
theorem aou(l:List Int)(hl:l.length≤400)(hz:ir l)(n:Nat)(hn:n=1∨n=2)(t:List ax)(f:List (List ax))(b:V)(d:Nat)(F:Fr)(H:af)(R:X→Fr→af→Prop)(j:Nat)(U:Dj l n t f b d j F H)
 (W:∀A B,Dj l n t f b d 0 A B→R (.exit 2) A B):bw (.loop (pc 47 5)) R F H:=by
 refine bK (Dj l n t f b d) j U ?_;rintro j a3 c ⟨m,z,J,⟨u,v,w,G,o⟩,r,hm,i,hi,s,I,bh,M,L,x,al,ab,N,K⟩;rw[ad3];cases j with
 |zero=>
  simp(disch:=omega)only[go_sem,r,jU,df];refine W _ _ ⟨m,z,J,⟨?_,?_,?_,?_,?_⟩,?_,hm,i,hi,s,I,bh,M,L,x,al,ab,N,K⟩
  iterate 6 simp only[go_sem,u,v,w,G,o,r]
 |succ j=>
  have a4:=rL n m;simp(disch:=omega)only[go_sem,ad2,u,v,w,o,r,bh,dt];refine eV (GS l hl hz n 2 hn ag) ag hi s ?_;rintro _ a ⟨p,hp,rfl⟩ ac;simp(disch:=omega)only[go_sem,gD,gf,bh,true_and];have e:aH (c.set 5 (.cells (cJ l a) 0)) 2 z (fq n m) J:=L.set s _;have Y:aH (c.set 5 (.cells (cJ l a) 0)) 2 b (fq n f) d:=M.set s _;refine gA (bytes:=32) (new:=pH n p) e rfl ag rfl ⟨aa,ag⟩ fun v2 Q T O g k P=>?_
  obtain⟨S,n2,rfl⟩:=O.slice (by rw[jl]at g;omega);have C:(c.set 5 (.cells (cJ l a) 0)).get 5=.cells (cJ l a) 0:=by rw[af.aK,ao rfl]
  have D:(c.set 5 (.cells (cJ l a) 0)).get 6=.cells [ah 0,ah 0,.ak,.ak,.ak] 0:=by rw[af.aK,aj ag];exact I
  have E:(c.set 5 (.cells (cJ l a) 0)).get 7=.cells [ah (n:Int),ah (n:Int),bJ t,b,z] 0:=by rw[af.aK,aj ag];exact bh
  have Z:aH Q 2 b (fq n f) d:=Y.other e (hO P) k x;simp only[jl]at g k P;have a1:=(k 5 aa (e.ne C)).trans C;have a2:=(k 6 aa (e.ne D)).trans D;have y:=(k 7 aa (e.ne E)).trans E;simp(disch:=omega)only[go_sem,ad1,o,r,y,aI];refine⟨j,mq j,m++[p],.slice S 0 n2 (.grown 2),T,⟨?_,?_,?_,?_,?_⟩,?_,?_,a,ac,?_,?_,?_,Z.set y _,?_,?_,?_,?_,N,?_⟩
  iterate 5 simp only[go_sem,u,v,w,G,o]
  ·simp only[go_sem];congr 1;omega
  ·rw[aV,gP];omega
  ·rw[af.aK,aj ag];exact a1
  ·rw[af.aK,aj ag];exact a2
  ·rw[af.aK,ao rfl]
  ·refine aH.set ?_ y _;rw[zJ];simpa [fq]using O
  ·rcases g with⟨_,g⟩|⟨g,a0⟩
   ·right;omega
   ·rw[a0];exact x
  ·rw[jl];omega
  ·rw[jl];omega
  ·intro q hq;rcases hN.1 hq with h|h
   ·exact K q h
   ·rw[ec.1 h];exact hp
structure fc where
 n:Nat
 obj:List ax
 is:List (List ax)
 es:List (List ax)
structure fc.az (p:fc):Prop where
 n:p.n=1∨p.n=2
 obj:qZ p.n 3 p.obj
 is:∀q∈p.is,qZ p.n 2 q
 es:∀q∈p.es,qZ p.n 2 q
 li:p.is.length≤2
 le:p.es.length≤1
def fJ(p:fc):V:=.agg [ah (p.n:Int),ah (p.n:Int),bJ p.obj,gd p.n p.is,gd p.n p.es]
theorem oz(p:fc):bA (fJ p):=.agg (.cons (.int _ _) (.cons (.int _ _) (.cons (tT _) (.cons (FF _ _) (.cons (FF _ _) .nil)))))
variable{c:af}{I:af}{a:Nat}{K:List (List ax)}{h:Nat}
theorem FQ{v:V}(d:aH c 2 v (fq a K) h)(e:∀y,h≠0→c.get y=.cells (fq a K) h→I.get y=.none):bO c I v (gd a K):=by
 obtain⟨m,b,f⟩:=d.dQ (H2:=I) ag e (cD.refl _);rw[rL]at f;have:m=K.length:=aa;rw[this]at b;exact b
theorem aov(l:List Int)(hl:l.length≤400)(d:ir l)(a:Nat)(f:a=1∨a=2):lC l 47 [ah (a:Int),ah 2] fun v=>∃p:fc,p.n=a∧p.az∧v=fJ p:=by
 refine n8 (.cons (.int _ _) (.cons (.int _ _) .nil)) fun i hi=>aT alE ?_
 simp only[go_sem,d47,ad7];refine eV (GS l hl d a 3 f ag) ag hi ?_ ?_
 ·simp only[go_sem,mI,c4]
 rintro _ i1 ⟨j,ab,rfl⟩ R;simp only[go_sem,ad6,gD,gf,c4];refine eV (k_ l hl d 3 ag) ag R ?_ ?_
 ·simp only[go_sem,c4]
 rintro _ i2 ⟨C,ba,rfl⟩ S;simp only[go_sem];refine aot l hl d a f j _ _ _ C ⟨[],.ak,0,⟨?_,?_,?_,?_,?_⟩,?_,by simp;omega,i2,S,?_,?_,?_,.nil,.nil,.inl rfl,?_,?_,(fun _ h=>by cases h),(fun _ h=>by cases h)⟩ ?_
 iterate 9 simp only[go_sem,c4]
 ·exact aF 8
 ·exact(by decide:0<8)
 rintro ap H1 ⟨m,am,N,⟨t,I,J,K,L⟩,f8,X,i3,T,u,M,bh,P,a8,bc,Z,Q,z,a7⟩;rw[fF];simp only[go_sem,ad5,t];refine eV (k_ l hl d 2 ag) ag T u ?_;rintro _ i4 ⟨D,bb,rfl⟩ U;simp only[go_sem];refine aou l hl d a f j m am N _ _ _ D ⟨[],.ak,0,⟨?_,?_,?_,?_,?_⟩,?_,by simp;omega,i4,U,?_,?_,?_,P.set u _,.nil,.inl rfl,?_,?_,z,(fun _ h=>by cases h)⟩ ?_
 iterate 6 simp only[go_sem,t,I,J,K,L]
 ·rw[af.aK,ao rfl]
 ·rw[af.aK,aj ag];exact M
 ·rw[af.aK,aj ag];exact bh
 ·rw[jl];exact Z
 ·rw[jl];exact Q
 rintro ar r ⟨s,bv,ge,⟨e0,e1,e2,G,H⟩,a3,Y,B,W,E,q,al,x,w,bd,be,a9,a',O⟩;obtain⟨C,D,bB⟩:=x.aZ;obtain⟨l1,l2,l3⟩:=w.aZ;rw[fF];simp only[go_sem,ad4,G,H,q,al,bB,l3];have A:∀(o:cR) y (F:List V) g,g≠0→(r.set 6 o).get y=.cells F g→(∀k,o≠ .cells k g)→(af.one 5 (r.set 6 o).next (cJ l B)).get y=.none:=by
  intro o y F g b c h2;rw[af.k6,aj];intro h;rw[h,af.aK,aj ag,E]at c;cases c;exact b rfl
 refine⟨B,_,W,?_,.agg (.cons (.same _) (.cons (.same _) (.cons (.same _) (.cons (FQ (x.set q _) fun y b c=>A _ y _ _ b c (fun k e=>by cases e;exact b rfl)) (.cons (FQ (w.set q _) fun y b c=>A _ y _ _ b c (fun k e=>by cases e;exact b rfl)) .nil))))),oz ⟨a,j,m,s⟩,⟨a,j,m,s⟩,rfl,⟨f,ab,z,O,X,Y⟩,rfl⟩;exact E
def mj(t:ax):List V:=[.str (bf t.1),bI t.2]
def jd:List ax→List V
 |[]=>[]
 |t::l=>mj t++jd l
def eD(l:List ax):V:=.row l.length (jd l)
theorem Ir:∀l,(jd l).length=l.length*2
 |[]=>rfl
 |t::l=>by
  simp only[jd,aV,Ir l,cV];have:(mj t).length=2:=rfl;omega
theorem C6:∀(l m:List ax),jd (l++m)=jd l++jd m
 |[],_=>rfl
 |t::l,m=>by simp only[eL,jd,C6 l m,fl]
theorem NX:∀l,bX (jd l)
 |[]=>.nil
 |t::l=>lF (.cons (.str _) (.cons (ni _) .nil)) (NX l)
theorem sE(l:List ax):bA (eD l):=.row _ (NX l)
inductive oT (H:af) (go:Nat):List V→List ax→Prop
 |nil:oT H go [] []
 |snoc {xs:List V}{l:List ax}{t:ax}{w:V}{g:Nat} (h:oT H go xs l) (hw:aH H 1 w (ct t.2) g) (hg:go≠g) (hl:g<H.next):oT H go (xs++[.str (bf t.1),w]) (l++[t])
variable{b:List V}{l:List ax}
theorem oT.len(h:oT c a b l):b.length=l.length*2:=by
 induction h with
 |nil=>rfl
 |snoc h _ _ _ d=>simp only[aV,d,cV,kS];omega
theorem oT.keep{H':af}(d:oT c a b l)(k:∀v b g,aH c 1 v b g→a≠g→g<c.next→aH H' 1 v b g∧h≠g∧g<H'.next):oT H' h b l:=by
 induction d with
 |nil=>exact .nil
 |snoc _ m j hl n=>
  obtain⟨e,f,i⟩:=k _ _ _ m j hl;exact .snoc n e f i
theorem y8{a e d:List V}(h:cD c I a e)(f:cD c I b d):cD c I (a++b) (e++d):=by
 induction a generalizing e with
 |nil=>cases h;exact f
 |cons x a j=>cases h with|cons g i=>exact .cons g (j i)
theorem oT.dQ{H:af}(h:oT H a b l):cD H (af.zero H.next) b (jd l):=by
 induction h with
 |nil=>exact .nil
 |@snoc b l t w g _ e i hl f=>
  rw[C6];refine y8 f (.cons (.same _) (.cons ?_ .nil));obtain⟨n,c,d⟩:=e.dQ (H2:=af.zero H.next) ag (fun _ _ _=>kR) (cD.refl _)
  rw[j5]at d;have:n=t.2.length:=aa;rw[this]at c;exact c
def SX(p:List ax)(n:Nat)(k:Nat)(F:Fr)(H:af):Prop:=∃(i:Nat) (a:List V) (v:V) (g:Nat),k=p.length-i∧i≤p.length∧rd 1 F=.ptr 5 0∧rd 2 F=.ptr 6 0∧rd 3 F=.ptr 7 0∧rd 4 F=ah (i:Int)∧H.get 5=.cells [ah (n:Int),bJ p] 0∧H.get 6=.cells [ah 0,.ak] 0∧H.get 7=.cells [ah (n:Int),v] 0∧aH H 2 v a g∧oT H g a (p.take i)∧8≤H.next
theorem CP{t:ax}(h:l[a]? =some t):l.take (a+1)=l.take a++[t]:=by
 obtain⟨hi,rfl⟩:=gZ.1 h;exact kU hi
theorem Io(p:List ax)(n q:Nat)(hn:0<n∧n≤100)(Z:∀t∈p,t.2.length=n)(hq:∀t∈p,bg q t.1)(am:q≤30000000)(hl:p.length≤100000000):aS 49 [gD n p] (.agg [ah (n:Int),eD p]):=by
 refine fK (.cons (tS _ _) .nil) (aT alF ?_);simp only[go_sem,d49,aeb,aea,gD,gf];refine bK (SX p n) p.length ⟨0,[],.ak,0,rfl,b4 _,?_,?_,?_,?_,?_,?_,?_,.nil,.nil,?_⟩ ?_
 iterate 3 simp only[go_sem]
 ·simp only[go_sem];rfl
 iterate 3 simp only[go_sem]
 ·exact aF 8
 rintro k a4 a ⟨i,F,v,g,rfl,hi,E,L,r,s,u,x,bh,z,j,a'⟩;obtain⟨k1,k2,bB⟩:=z.aZ;rw[ad_];by_cases ac:i<p.length
 ·obtain⟨t,A⟩:∃t,p[i]? =some t:=⟨p[i],cx ac⟩;have Q:t∈p:=eN A;have Y:=HX A;have K:=yd A;have R:=j.len;rw[dP]at R;simp(disch:=omega)only[go_sem,ad9,E,r,s,u,bh,dt,pq,bH,cG,Y,lD];have P:¬a.next=5:=aa
  have ae:¬a.next=7:=aa
  simp(disch:=omega)only[go_sem,s,pq,bH,K,P];refine use (s9 t.1 (hq t Q) am) ?_;simp(disch:=omega)only[go_sem,u,bh,K,P,ae,true_and];have a7:=Z t Q;refine xg (n:=t.2.length) (cs:=ct t.2) (by rw[af.aY,ao rfl]) aa (by rw[j5,ef]) ag ⟨aa,ag⟩ fun w o G V W=>?_
  obtain⟨J,S,rfl⟩:=G.slice aa;have f:∀y,y<a.next→o.get y=a.get y:=fun y hy=>by
   rw[V y (Nat.lt_succ_of_lt hy),af.aY,aj aa]
  have a6:o.next=a.next+3:=W
  have H:=(f 5 aa).trans u;have I:=(f 6 aa).trans x;have D:=(f 7 aa).trans bh;have e:aH o 2 v F g:=z.low f aa;have a8:g=0∨g<a.next:=by
   cases z with
   |nil=>exact .inl rfl
   |cells _ _ _ _ _ h _=>exact .inr h
  simp(disch:=omega)only[go_sem,D,true_and];refine gA (bytes:=40) (new:=[.str (bf t.1),.slice J 0 S (.grown 1)]) e rfl ag rfl ⟨aa,ag⟩ fun v2 H3 M T B l U=>?_
  obtain⟨X,n2,rfl⟩:=T.slice aa;have a0:=(l 5 aa (e.ne H)).trans H;have a1:=(l 6 aa (e.ne I)).trans I;have C:=(l 7 aa (e.ne D)).trans D;have O:∀c,g≠c→c<o.next→M≠c:=fun c b d=>by
   rcases B with⟨_,B⟩|⟨_,B⟩
   ·omega
   ·rw[B];exact b
  simp(disch:=omega)only[go_sem,ad8,r,s,C,aI];refine⟨p.length-(i+1),aa,i+1,F++[.str (bf t.1),.slice J 0 S (.grown 1)],.slice X 0 n2 (.grown 2),M,rfl,aa,?_,?_,?_,?_,?_,?_,?_,T.set C _,?_,?_⟩
  iterate 3 simp only[go_sem,E,L,r]
  ·simp only[go_sem];rfl
  ·rw[af.aK,aj ag];exact a0
  ·rw[af.aK,aj ag];exact a1
  ·rw[af.aK,ao rfl]
  ·rw[CP A];refine .snoc (g:=a.next+1+1) (j.keep fun v' a3 c b d N=>⟨?_,O c d aa,?_⟩) ?_ (O _ aa aa) ?_
   ·exact((b.low f aa).other e (hO U) l (.inr d)).set C _
   ·rw[jl];omega
   ·exact(G.other e (hO U) l aa).set C _
   ·rw[jl];omega
  ·rw[jl];omega
 ·have ab:i=p.length:=aa;rw[ab,b8 (aF _)]at j;have R:=j.len;simp(disch:=omega)only[go_sem,ad',E,L,r,s,u,x,bh,df,bB];have ap:oT (a.set 6 (.cells [ah (n:Int),v] 0)) g F p:=j.keep fun v' a3 c b d N=>⟨b.set x _,d,N⟩
  obtain⟨m,b,d⟩:=(z.set x (.cells [ah (n:Int),v] 0)).dQ (H2:=af.zero _) ag (fun _ _ _=>kR) ap.dQ;have hm:m=p.length:=aa;rw[hm]at b;exact⟨_,.agg (.cons (.same _) (.cons b .nil)),.agg (.cons (.int _ _) (.cons (sE _) .nil)),rfl⟩
def bS(n:Nat)(p:List ax):List V:=[ah (n:Int),eD p]
def gv(n:Nat)(p:List ax):V:=.agg (bS n p)
def fW(n:Nat):List (List ax)→List V
 |[]=>[]
 |p::l=>bS n p++fW n l
def cB(n:Nat)(l:List (List ax)):V:=.row l.length (fW n l)
theorem rY(n:Nat):∀l,(fW n l).length=l.length*2
 |[]=>rfl
 |p::l=>by
  simp only[fW,aV,rY n l,cV];have:(bS n p).length=2:=rfl;omega
theorem wk(n:Nat):∀(l m:List (List ax)),fW n (l++m)=fW n l++fW n m
 |[],_=>rfl
 |t::l,m=>by simp only[eL,fW,wk n l m,fl]
theorem Bs(n:Nat):∀l,bX (fW n l)
 |[]=>.nil
 |p::l=>lF (.cons (.int _ _) (.cons (sE _) .nil)) (Bs n l)
theorem xl(n:Nat)(l:List (List ax)):bA (cB n l):=.row _ (Bs n l)
theorem aom(n:Nat)(l:List (List ax))(i:Nat):(fq n l).drop (i*2)=fq n (l.drop i):=by
 induction l generalizing i with
 |nil=>simp[fq]
 |cons t l a=>
  cases i with
  |zero=>simp[fq]
  |succ i=>
   rw[oR,js];show(pH n t++fq n l).drop ((pH n t).length+i*2)=fq n (l.drop i);rw[List.drop_length_add_append,a]
theorem aon{n:Nat}(h:K[a]? =some l):cj (ej (fq n K) (a*2)) 2=some (gf n l):=by
 obtain⟨hi,rfl⟩:=gZ.1 h;rw[kj,aom,lz hi];show cj (pH n K[a]++fq n _) 2=_;rw[eZ,ao (by simp[pH])];rfl
@[go_sem]theorem avO(n:Nat)(l:List (List ax)):c3 (gd n l)=some (.val (ah (l.length:Int))):=rfl
variable{s:Int}{o:IntKind}
theorem ai4(h:0≤s∧s<K.length):eo none 2 [gd a K,.int o s]=some (.val (.dh (fq a K) (s.toNat*2))):=k7 h
theorem Oj{v:V}(d:aH c 2 v (fW a K) h)(e:∀y,h≠0→c.get y=.cells (fW a K) h→I.get y=.none):bO c I v (cB a K):=by
 obtain⟨m,b,f⟩:=d.dQ (H2:=I) ag e (cD.refl _);rw[rY]at f;have:m=K.length:=aa;rw[this]at b;exact b
def IQ(n q:Nat)(p:List ax):Prop:=(∀t∈p,t.2.length=n)∧(∀t∈p,bg q t.1)∧p.length≤100000000
theorem Sx(l:List (List ax))(n q:Nat)(t:0<n∧n≤100)(u:q≤30000000)(w:∀p∈l,IQ n q p)(hl:l.length≤100000000):aS 50 [gd n l] (cB n l):=by
 refine fK (.cons (FF _ _) .nil) (aT alG ?_);simp only[go_sem,d50,aeh,aeg];refine bK (fun k a h=>∃(i:Nat) (v:V) (g:Nat),k=l.length-i∧i≤l.length∧rd 0 a=gd n l∧rd 3 a=v∧rd 4 a=ah (i:Int)∧aH h 2 v (fW n (l.take i)) g) l.length ⟨0,.ak,0,rfl,b4 _,?_,?_,?_,.nil⟩ ?_
 iterate 2 simp only[go_sem]
 ·simp only[go_sem];rfl
 rintro k a h ⟨i,v,g,rfl,hi,b,j,c,d⟩;rw[aee];by_cases s:i<l.length
 ·obtain⟨p,f⟩:∃p,l[i]? =some p:=⟨l[i],cx s⟩;obtain⟨A,B,C⟩:=w p (eN f);have m:=aon (n:=n) f;have x:=rY n (l.take i);rw[dP]at x;simp(disch:=omega)only[go_sem,aed,b,j,c,dt,ai4,bH,m];refine use (Io p n q t A B u C) ?_;simp(disch:=omega)only[go_sem];refine gA (bytes:=32) (new:=bS n p) d rfl ag rfl ⟨aa,ag⟩ fun z D o y E F G=>?_
  simp(disch:=omega)only[go_sem,aec,c,aI];refine⟨l.length-(i+1),aa,i+1,z,o,rfl,aa,?_,?_,?_,?_⟩
  iterate 2 simp only[go_sem,b]
  ·simp only[go_sem];rfl
  ·obtain⟨r,e⟩:=gZ.1 f;rw[kU r,e,wk];simpa [fW]using y
 ·simp(disch:=omega)only[go_sem,aef,b,j,c,df];rw[(aa:i=l.length),b8 (aF _)]at d;exact⟨_,Oj d (fun _ _ _=>kR),xl _ _,rfl⟩
def xJ:Nat→List V
 |1=>[.str [120]]
 |_=>[.str [120],.str [121]]
def e9(n:Nat):V:=.row n (xJ n)
theorem FE(n:Nat)(a:n=1∨n=2):bA (e9 n):=by
 rcases a with rfl|rfl
 ·exact .row _ (.cons (.str _) .nil)
 ·exact .row _ (.cons (.str _) (.cons (.str _) .nil))
theorem ank:pL 5 p0 48 [ah 1] (e9 1)=true:=by kernel_rfl
theorem anl:pL 5 p0 48 [ah 2] (e9 2)=true:=by kernel_rfl
theorem anm(n:Nat)(a:n=1∨n=2):aS 48 [ah (n:Int)] (e9 n):=by
 rcases a with rfl|rfl
 ·exact rP qW ank
 ·exact rP qW anl
def j0(p:fc):V:=.agg [e9 p.n,ah (p.n:Int),eD p.obj,cB p.n p.is,cB p.n p.es]
theorem tQ(p:fc)(a:p.n=1∨p.n=2):bA (j0 p):=.agg (.cons (FE _ a) (.cons (.int _ _) (.cons (sE _) (.cons (xl _ _) (.cons (xl _ _) .nil)))))
theorem Ip(d:a=1∨a=2)(e:h≤3)(b:qZ a h l):IQ a 15 l:=
 ⟨fun t c=>(B4 d t.2 (b.2.1 t c).1).1,fun t c=>(b.2.1 t c).2.mono aa,by have:=b.2.2;omega⟩
theorem Tg(p:fc)(h:p.az):aS 9 [fJ p] (j0 p):=by
 have a:=h.n;have c:0<p.n∧p.n≤100:=aa;obtain⟨A,B,C⟩:=Ip a ag h.obj;have s:=Io p.obj p.n 15 c A B ag C;have t:=Sx p.is p.n 15 c ag (fun q f=>Ip a ag (h.is q f)) (by have:=h.li;omega);have u:=Sx p.es p.n 15 c ag (fun q f=>Ip a ag (h.es q f)) (by have:=h.le;omega);refine fK (.cons (oz _) .nil) (aT nW ?_);simp only[go_sem,d9,afR,fJ];refine use (anm p.n a) ?_;have r:(xJ p.n).length=p.n*1:=by rcases a with e|e<;>rw[e]<;>rfl
 simp only[go_sem,true_and];refine xg (n:=p.n) (cs:=xJ p.n) ?_ c.1 r ag ⟨aa,ag⟩ fun w D g i E=>?_
 ·simp only[go_sem]
 obtain⟨k,z,rfl⟩:=g.slice aa;have b:=i 5 (ag:(5:Nat)<8);have d:=i 6 (ag:(6:Nat)<8);simp only[go_sem]at b d;simp only[go_sem,b,true_and];refine use s ?_;simp only[go_sem,b,true_and];refine use t ?_;simp only[go_sem,b,true_and];refine use u ?_;have v:∀l,aZ (cB p.n l)=true:=fun _=>rfl
 have x:∀l,cellsOf (cB p.n l)=[cB p.n l]:=fun _=>rfl
 have bB:∀l,V.one (cB p.n l)=true:=fun _=>rfl
 have G:∀l,aZ (eD l)=true:=fun _=>rfl
 have H:∀l,cellsOf (eD l)=[eD l]:=fun _=>rfl
 have y:∀l,V.one (eD l)=true:=fun _=>rfl
 simp only[go_sem,d,v,x,bB,y];obtain⟨m,j,F⟩:=(g.set d (.cells [V.slice k 0 z (Cap.grown 1),V.int .i64 (p.n:Int),eD p.obj,cB p.n p.is,cB p.n p.es] 0)).dQ (H2:=af.zero _) ag (fun _ _ _=>kR) (cD.refl _);have o:m=p.n:=aa;rw[o]at j;exact⟨_,.agg (.cons j (.cons (.same _) (.cons (.same _) (.cons (.same _) (.cons (.same _) .nil))))),tQ p a,rfl⟩
section
open Go.au Go.Proofs.Tryz
set_option maxRecDepth 100000
attribute [local irreducible] rd kc ex bF bC re rg mv bN pick alloc box bi bs ba be bq st fa b6 cF cZ cQ c9 dO dN ms cY dF dD dn mx mn dm ap dy cw dr dw bY dx ext dJ neg Go.au.not dG dB dI dH dM dK dz dL dc c_ u8
def aew:=ai 60 f60 0
def aex:=ai 60 f60 1
def MQ:=ai 60 f60 2
def aeB:=ai 60 f60 3
def aeC:=ai 60 f60 4
def aeD:=ai 60 f60 5
def MR:=ai 60 f60 6
def aeE:=ai 60 f60 7
def aeF:=ai 60 f60 8
def aeG:=ai 60 f60 9
def aey:=ai 60 f60 10
def aez:=ai 60 f60 11
def aeA:=ai 60 f60 12
def d60:=aU 60 f60
def alM:=aR f60 60
def Vq:=ai 114 f114 0
def d114:=aU 114 f114
def ajX:=aR f114 114
def Vr:=ai 115 f115 0
def Vs:=ai 115 f115 1
def d115:=aU 115 f115
def ajY:=aR f115 115
def Lg:=ai 181 f181 0
def Lh:=ai 181 f181 1
def Yn:=ai 181 f181 2
def Yo:=ai 181 f181 3
def d181:=aU 181 f181
def aku:=aR f181 181
def LL:=ai 245 f245 0
def Z7:=ai 245 f245 1
def LM:=ai 245 f245 2
def Z8:=ai 245 f245 3
def Z9:=ai 245 f245 4
def Z_:=ai 245 f245 5
def aaa:=ai 245 f245 6
def aab:=ai 245 f245 7
def d245:=aU 245 f245
def akV:=aR f245 245
def abH:=ai 305 f305 0
def abI:=ai 305 f305 1
def L5:=ai 305 f305 2
def abK:=ai 305 f305 3
def abL:=ai 305 f305 4
def abM:=ai 305 f305 5
def abN:=ai 305 f305 6
def abO:=ai 305 f305 7
def abP:=ai 305 f305 8
def abQ:=ai 305 f305 9
def abJ:=ai 305 f305 10
def d305:=aU 305 f305
def alf:=aR f305 305
def X3:=ai 163 f163 0
def X4:=ai 163 f163 1
def X5:=ai 163 f163 2
def K6:=ai 163 f163 3
def K7:=ai 163 f163 4
def X6:=ai 163 f163 5
def K8:=ai 163 f163 6
def X7:=ai 163 f163 7
def d163:=aU 163 f163
def aki:=aR f163 163
def yV:=ai 121 f121 0
def VX:=ai 121 f121 1
def vf:=ai 121 f121 2
def VY:=ai 121 f121 3
def VZ:=ai 121 f121 4
def V2:=ai 121 f121 5
def V3:=ai 121 f121 6
def d121:=aU 121 f121
def aj3:=aR f121 121
def YL:=ai 186 f186 0
def YM:=ai 186 f186 1
def Ep:=ai 186 f186 2
def YN:=ai 186 f186 3
def YO:=ai 186 f186 4
def d186:=aU 186 f186
def akz:=aR f186 186
def YK:=ai 185 f185 0
def d185:=aU 185 f185
def aky:=aR f185 185
def aac:=ai 246 f246 0
def aad:=ai 246 f246 1
def d246:=aU 246 f246
def akW:=aR f246 246
def L6:=ai 306 f306 0
def d306:=aU 306 f306
def alg:=aR f306 306
def V4:=ai 122 f122 0
def d122:=aU 122 f122
def aj4:=aR f122 122
def YP:=ai 187 f187 3
def YQ:=ai 187 f187 4
def YR:=ai 187 f187 5
def d187:=aU 187 f187
def akA:=aR f187 187
def aae:=ai 247 f247 1
def aaf:=ai 247 f247 5
def aag:=ai 247 f247 6
def aah:=ai 247 f247 7
def d247:=aU 247 f247
def akX:=aR f247 247
def abR:=ai 307 f307 0
def abS:=ai 307 f307 1
def L7:=ai 307 f307 2
def ab3:=ai 307 f307 3
def ab4:=ai 307 f307 4
def ab5:=ai 307 f307 5
def ER:=ai 307 f307 6
def L8:=ai 307 f307 7
def L9:=ai 307 f307 8
def L_:=ai 307 f307 9
def abT:=ai 307 f307 10
def abU:=ai 307 f307 11
def abV:=ai 307 f307 12
def abW:=ai 307 f307 13
def abX:=ai 307 f307 14
def abY:=ai 307 f307 15
def abZ:=ai 307 f307 16
def ab0:=ai 307 f307 17
def ab1:=ai 307 f307 18
def ab2:=ai 307 f307 19
def d307:=aU 307 f307
def alh:=aR f307 307
def V5:=ai 123 f123 0
def d123:=aU 123 f123
def aj5:=aR f123 123
def YS:=ai 188 f188 0
def YT:=ai 188 f188 1
def YX:=ai 188 f188 2
def YY:=ai 188 f188 3
def YZ:=ai 188 f188 4
def Ln:=ai 188 f188 5
def Y0:=ai 188 f188 6
def Y1:=ai 188 f188 7
def Y2:=ai 188 f188 8
def Er:=ai 188 f188 9
def YU:=ai 188 f188 10
def YV:=ai 188 f188 11
def Lm:=ai 188 f188 12
def YW:=ai 188 f188 13
def d188:=aU 188 f188
def akB:=aR f188 188
def ZP:=ai 235 f235 0
def Ey:=ai 235 f235 1
def ZQ:=ai 235 f235 2
def ZR:=ai 235 f235 3
def ZS:=ai 235 f235 4
def Ez:=ai 235 f235 5
def d235:=aU 235 f235
def akO:=aR f235 235
def LR:=ai 254 f254 0
def LS:=ai 254 f254 1
def aaF:=ai 254 f254 2
def aaG:=ai 254 f254 3
def aaH:=ai 254 f254 4
def aaI:=ai 254 f254 5
def aaJ:=ai 254 f254 6
def aaK:=ai 254 f254 7
def EI:=ai 254 f254 8
def d254:=aU 254 f254
def ak1:=aR f254 254
def aaL:=ai 255 f255 0
def aaM:=ai 255 f255 1
def aaN:=ai 255 f255 2
def aaO:=ai 255 f255 3
def aaP:=ai 255 f255 4
def aaQ:=ai 255 f255 5
def d255:=aU 255 f255
def ak2:=aR f255 255
def ZI:=ai 231 f231 0
def d231:=aU 231 f231
def akL:=aR f231 231
def EA:=ai 236 f236 0
def d236:=aU 236 f236
def akP:=aR f236 236
def X8:=ai 165 f165 0
def d165:=aU 165 f165
def akj:=aR f165 165
def Eg:=ai 124 f124 0
def d124:=aU 124 f124
def aj6:=aR f124 124
def aaT:=ai 276 f276 0
def aaU:=ai 276 f276 1
def EJ:=ai 276 f276 2
def aaX:=ai 276 f276 3
def aaY:=ai 276 f276 4
def LU:=ai 276 f276 5
def aaZ:=ai 276 f276 6
def aa0:=ai 276 f276 7
def aa1:=ai 276 f276 8
def LV:=ai 276 f276 9
def aaV:=ai 276 f276 10
def aaW:=ai 276 f276 11
def d276:=aU 276 f276
def ak5:=aR f276 276
def abc:=ai 298 f298 0
def L0:=ai 298 f298 1
def EK:=ai 298 f298 2
def EL:=ai 298 f298 3
def EM:=ai 298 f298 4
def abd:=ai 298 f298 5
def abe:=ai 298 f298 6
def d298:=aU 298 f298
def ala:=aR f298 298
def aa3:=ai 288 f288 0
def d288:=aU 288 f288
def ak7:=aR f288 288
def Zt:=ai 224 f224 0
def d224:=aU 224 f224
def akG:=aR f224 224
def aa4:=ai 290 f290 0
def aa5:=ai 290 f290 1
def LW:=ai 290 f290 2
def aa6:=ai 290 f290 3
def aa7:=ai 290 f290 4
def aa8:=ai 290 f290 5
def aa9:=ai 290 f290 6
def aa_:=ai 290 f290 7
def d290:=aU 290 f290
def ak8:=aR f290 290
def aai:=ai 248 f248 0
def LN:=ai 248 f248 1
def d248:=aU 248 f248
def OV:=aR f248 248
def aaE:=ai 253 f253 0
def LQ:=ai 253 f253 1
def d253:=aU 253 f253
def ak0:=aR f253 253
def Mc:=ai 314 f314 0
def Md:=ai 314 f314 1
def Me:=ai 314 f314 2
def Mi:=ai 314 f314 3
def acB:=ai 314 f314 4
def Mj:=ai 314 f314 5
def Mk:=ai 314 f314 6
def Ml:=ai 314 f314 7
def Mm:=ai 314 f314 8
def acC:=ai 314 f314 9
def aci:=ai 314 f314 10
def acj:=ai 314 f314 11
def ack:=ai 314 f314 12
def acm:=ai 314 f314 13
def acn:=ai 314 f314 14
def aco:=ai 314 f314 15
def acp:=ai 314 f314 16
def acq:=ai 314 f314 17
def acr:=ai 314 f314 18
def acs:=ai 314 f314 19
def acu:=ai 314 f314 20
def acv:=ai 314 f314 21
def acw:=ai 314 f314 22
def acy:=ai 314 f314 23
def acz:=ai 314 f314 24
def acA:=ai 314 f314 25
def Mf:=ai 314 f314 26
def Mg:=ai 314 f314 27
def Mh:=ai 314 f314 28
def d314:=aU 314 f314
def OZ:=aR f314 314
def acg:=ai 313 f313 0
def ach:=ai 313 f313 1
def d313:=aU 313 f313
def alk:=aR f313 313
def aa2:=ai 277 f277 0
def d277:=aU 277 f277
def ak6:=aR f277 277
def acd:=ai 311 f311 0
def ace:=ai 311 f311 1
def acf:=ai 311 f311 2
def d311:=aU 311 f311
def alj:=aR f311 311
def abf:=ai 299 f299 0
def L1:=ai 299 f299 1
def EN:=ai 299 f299 2
def EO:=ai 299 f299 3
def EP:=ai 299 f299 4
def abg:=ai 299 f299 5
def abh:=ai 299 f299 6
def d299:=aU 299 f299
def alb:=aR f299 299
def ac4:=ai 355 f355 0
def d355:=aU 355 f355
def alq:=aR f355 355
end
def SQ(b:List UInt8):Prop:=∀c l,b=c::l→¬ez c
theorem UW(a b:List UInt8)(t:∀c∈a,ez c)(u:SQ b)(hl:a.length+b.length≤1000000000):aS 186 [.str (a++b)] (.aA [.str a,.str b]):=by
 refine cM (.cons (.str _) .nil) (.aA (.cons (.str _) (.cons (.str _) .nil))) (aT akz ?_);simp only[go_sem,d186,YO,YN];have j:(a++b).length=a.length+b.length:=aV;refine bK (fun k l q=>∃i:Nat,k=a.length-i∧i≤a.length∧rd 0 l=.str (a++b)∧rd 4 l=ah (i:Int)) a.length ⟨0,rfl,b4 _,?_,?_⟩ ?_
 ·simp only[go_sem]
 ·simp only[go_sem];rfl
 rintro k l q ⟨i,rfl,hi,d,f⟩;rw[YM];by_cases w:i<a.length
 ·obtain⟨c,e⟩:∃c,(a++b)[i]? =some c:=⟨_,cx aa⟩;have v:c∈a:=by
   rw[p8 w]at e;exact eN e
  have p:=t c v;have r:=p.1;have s:=p.2;have g:kK [.str (a++b),ah (i:Int)]=some (.val (.int .u8 (c.toNat:Int))):=oA aa (by rw[bH];exact e);simp(disch:=omega)only[go_sem,YL,d,f,j,dt,df,g,aI];refine⟨a.length-(i+1),aa,i+1,rfl,aa,?_,?_⟩
  ·simp only[go_sem,d]
  ·simp only[go_sem];rfl
 ·have m:i=a.length:=aa;have n:slice3 lg false true false [.str (a++b),ah (i:Int)]=some (.val (.str a)):=by
   rw[CK ⟨aa,aa⟩,bH,m,q4]
  have o:slice3 lg true false false [.str (a++b),ah (i:Int)]=some (.val (.str b)):=by
   rw[v7 ⟨aa,aa⟩,bH,m,List.drop_left]
  cases b with
  |nil=>
   have x:(a++[]).length=a.length:=aE;simp(disch:=omega)only[go_sem,Ep,d,f,x,df,n,o]
  |cons c b=>
   have e:(a++c::b)[i]? =some c:=by rw[m,tv (aF _)];simp
   have y:=u c b rfl;have g:kK [.str (a++c::b),ah (i:Int)]=some (.val (.int .u8 (c.toNat:Int))):=oA aa (by rw[bH];exact e);simp only[cV]at j;by_cases r:c.toNat<48
   ·simp(disch:=omega)only[go_sem,Ep,d,f,j,dt,g,n,o]
   ·have s:57<c.toNat:=by
     refine oN fun h=>y ⟨aa,aa⟩
    simp(disch:=omega)only[go_sem,Ep,d,f,j,dt,df,g,n,o]
theorem aiE(s:List UInt8)(hl:s.length≤1000000000):aS 306 [.str s,.str [45]] (.bool (decide (s.take 1=[45]))):=by
 refine cM (.cons (.str _) (.cons (.str _) .nil)) (.bool _) (aT alg ?_);cases s with
 |nil=>simp(disch:=omega)only[go_sem,d306,L6,kS,gP,jU,Int.natCast_one,dt];rfl
 |cons c s=>
  have a:((([45]:List UInt8).length:Nat):Int)=1:=rfl;have d:¬(((c::s).length:Nat):Int)<1:=by simp;omega
  have b:slice3 lg false true false [.str (c::s),ah 1]=some (.val (.str ((c::s).take 1))):=CK ⟨ag,by simp;omega⟩;simp(disch:=assumption)only[go_sem,d306,L6,a,df,b]
theorem UX(s:List UInt8)(hl:s.length≤1000000000):aS 185 [.str s,.str [45]] (if s.take 1=[45]then .aA [.str (s.drop 1),bE]else .aA [.str s,aC]):=by
 have a:aS 246 [.str s,.str [45]] (if s.take 1=[45]then .aA [.str (s.drop 1),bE]else .aA [.str s,aC]):=by
  refine cM (.cons (.str _) (.cons (.str _) .nil)) (by split<;>exact .aA (.cons (.str _) (.cons (.bool _) .nil))) (aT akW ?_);simp only[go_sem,d246,aad];refine use (aiE s hl) ?_;by_cases h:s.take 1=[45]
  ·have b:((([45]:List UInt8).length:Nat):Int)=1:=rfl;have e:1≤s.length:=by
    cases s with
    |nil=>cases h
    |cons c s=>simp
   have d:slice3 lg true false false [.str s,ah 1]=some (.val (.str (s.drop 1))):=v7 ⟨ag,aa⟩;simp(disch:=assumption)only[go_sem,aac,dt,b,d];rw[ao h]
  ·simp(disch:=assumption)only[go_sem,df];rw[aj h]
 refine cM (.cons (.str _) (.cons (.str _) .nil)) (by split<;>exact .aA (.cons (.str _) (.cons (.bool _) .nil))) (aT aky ?_);simp only[go_sem,d185,YK];refine use a ?_;split
 iterate 2 simp only[go_sem]
theorem afT:dec a=[49]↔a=1:=by
 have b:dec 1=[49]:=by
  show(if 1=0 then _ else ds 1)=_;rw[aj ag,qm ag,show 1/10=0 from rfl,nR];rfl
 constructor
 ·intro h;exact Fg (h.trans b.symm)
 ·intro h;rw[h];exact b
def aq(n:Nat):List Nat:=if h:n=0 then []else n%18446744073709551616::aq (n/18446744073709551616)
termination_by n
decreasing_by omega
theorem j3:aq 0=[]:=by rw[aq];simp
theorem Fp(h:a≠0):aq a=a%18446744073709551616::aq (a/18446744073709551616):=by rw[aq];simp[h]
theorem Fq(h:a≠0)(b:a<18446744073709551616):aq a=[a]:=by
 rw[Fp h,kf b,m3 b,j3]
theorem ji(n:Nat):0<(aq n).length↔n≠0:=by
 constructor
 ·intro h e;rw[e,j3]at h;exact absurd h (Nat.lt_irrefl _)
 ·intro h;rw[Fp h];exact m7 _
def aM(l:List Nat):List V:=l.map fun d:Nat=>V.int .u64 (d:Int)
def bl(l:List Nat):V:=.row l.length (aM l)
theorem eS(l:List Nat):(aM l).length=l.length:=by simp[aM]
theorem ahi(l:List Nat):bX (aM l):=bX.iff.2 fun v h=>by
 simp only[aM,kT]at h;obtain⟨d,_,rfl⟩:=h;exact .int _ _
theorem dW(l:List Nat):bA (bl l):=.row _ (ahi l)
@[go_sem]theorem avU(l:List Nat):c3 (bl l)=some (.val (ah (l.length:Int))):=rfl
@[go_sem]theorem avA(l:List Nat):aZ (bl l)=true:=rfl
@[go_sem]theorem auR(l:List Nat):cellsOf (bl l)=[bl l]:=rfl
@[go_sem]theorem awn(l:List Nat):V.one (bl l)=true:=rfl
variable{d:List Nat}
theorem gU(h:0≤s∧s<d.length):eo none 1 [bl d,.int o s]=some (.val (.dh (aM d) s.toNat)):=by
 rw[bl,k7 h,ef]
theorem dY(h:a<d.length):cO (aM d) a=some (ay ((d.getD a 0:Nat):Int)):=by
 rw[gO];simp[aM,h]
def dj(z:Int):List V:=[.bool (decide (z<0)),bl (aq z.natAbs)]
def bZ(z:Int):V:=.agg (dj z)
theorem ahh(z:Int):bX (dj z):=.cons (.bool _) (.cons (dW _) .nil)
theorem gM(z:Int):bA (bZ z):=.agg (ahh z)
theorem hJ(n:Nat):bZ (n:Int)=.agg [aC,bl (aq n)]:=by
 unfold bZ dj;rw[show decide (((n:Nat):Int)<0)=false from a_ aa];rfl
theorem Ur(s:List UInt8)(O:∀c∈s,ez c)(hl:s.length≤19)(gR:Nat)(A:Cap)(F:Fr)(H:af)(R:X→Fr→af→Prop)(r:rd 23 F=.slice gR 0 s.length A)(u:rd 24 F=ah (s.length:Int))(B:rd 25 F=ah 0)(C:rd 5 F=ay 0)(D:rd 6 F=ay 1)(E:H.get gR=.cells (cm s) 0)
 (G:∀b,(∀t,t<5→rd t b=rd t F)→rd 5 b=ay ((dv s:Nat):Int)→rd 6 b=ay ((10^s.length:Nat):Int)→R (.exit 2) b H):bw (.loop (pc 307 3)) R F H:=by
 refine bK (fun k a q=>∃i:Nat,k=s.length-i∧i≤s.length∧(∀t,t<5→rd t a=rd t F)∧rd 23 a=rd 23 F∧rd 24 a=rd 24 F∧rd 25 a=ah (i:Int)∧rd 5 a=ay ((dv (s.take i):Nat):Int)∧rd 6 a=ay ((10^i:Nat):Int)∧dv (s.take i)<10^i∧q=H) s.length
  ⟨0,rfl,b4 _,fun _ _=>rfl,rfl,rfl,B,by rw[C];rfl,by rw[D];rfl,by simp[dv],rfl⟩ ?_
 rintro k a q ⟨i,rfl,hi,w,j,f,v,g,h,z,rfl⟩;rw[r]at j;rw[u]at f;rw[ab3];by_cases L:i<s.length
 ·obtain⟨c,l⟩:∃c,s[i]? =some c:=⟨_,cx L⟩;have x:=O c (eN l);have S:=x.1;have T:=x.2;have J:cO (cm s) i=some (.int .u8 (c.toNat:Int)):=by rw[gO,cm,iW,l];rfl
  have M:10^i≤10^18:=gw ag aa;have P:s.take (i+1)=s.take i++[c]:=by
   obtain⟨K,e⟩:=gZ.1 l;rw[kU K,e]
  have m:dv (s.take (i+1))=10*dv (s.take i)+(c.toNat-48):=by rw[P,xd]
  have n:10^(i+1)=10^i*10:=cS _ _;obtain⟨d,I⟩:∃d,d=dv (s.take i):=⟨_,rfl⟩;obtain⟨p,N⟩:∃p,p=10^i:=⟨_,rfl⟩;rw[←I]at g z m;rw[←N]at h z M n;have U:(cm s).length=s.length:=jh s;have V:aB .u64 ((c.toNat:Int)-48)=((c.toNat-48:Nat):Int):=by rw[bV _ aa];omega
  have Q:aB .u8 ((c.toNat:Int)-48)=((c.toNat-48:Nat):Int):=by rw[FB _ aa];omega
  simp(disch:=omega)only[go_sem,L7,abS,abR,j,f,v,g,h,dt,bW,ef,eJ,bH,E,J,Q,bV,aI];refine⟨s.length-(i+1),aa,i+1,rfl,aa,fun t o=>?_,?_,?_,?_,?_,?_,?_,rfl⟩
  ·simp(disch:=omega)only[bU];exact w t o
  iterate 2 simp only[go_sem,j,r,f,u]
  ·simp only[go_sem];rfl
  ·simp only[go_sem];rw[m];congr 1
  ·simp only[go_sem];rw[n];congr 1
  ·rw[m,n];omega
 ·have y:i=s.length:=aa;rw[y,b8 (aF _)]at g;rw[y]at h;simp(disch:=omega)only[go_sem,L7,f,v,df];refine G _ (fun t o=>?_) ?_ ?_
  ·simp(disch:=omega)only[bU];exact w t o
  iterate 2 simp only[go_sem,g,h]
theorem oy(s:List UInt8)(a:∀c∈s,ez c):dv s<10^s.length:=by
 have:∀r:List UInt8,(∀c∈r,ez c)→dv r.reverse<10^r.length:=by
  intro r;induction r with
  |nil=>intro _;decide
  |cons c r d=>
   intro h;have e:=d fun x b=>h x (by simp[b])
   have f:=(h c aE).2;rw[List.reverse_cons,xd,cV,cS];omega
 have:=this s.reverse (by simpa using a);simpa using this
theorem amD(s:List UInt8):lmap (fun b=>V.int .u8 (.ofNat b.toNat)) s=cm s:=by
 induction s with
 |nil=>rfl
 |cons a s c=>show _::lmap _ s=_;rw[c];rfl
theorem ahK{v:V}(h:aH c 1 v (aM d) a):bO c (af.zero c.next) v (bl d):=by
 obtain⟨n,b,e⟩:=h.dQ (H2:=af.zero c.next) ag (fun _ _ _=>kR) (cD.refl _)
 rw[eS]at e;have:n=d.length:=aa;rw[this]at b;exact b
theorem vX(s:Bool)(n:Nat):aS 236 [.bool s,bl (aq n)] (bZ (if s then-(n:Int)else n)):=by
 refine cM (.cons (.bool _) (.cons (dW _) .nil)) (gM _) (aT akP ?_);have hl:=ji n;cases s with
 |false=>
  simp only[go_sem,d236,EA,iM];rw[hJ]
 |true=>
  by_cases h:n=0
  ·have a:¬(0:Int)<(((aq n).length:Nat):Int):=by rw[h,j3];decide
   simp(disch:=assumption)only[go_sem,d236,EA,df];rw[h];rfl
  ·have a:(0:Int)<(((aq n).length:Nat):Int):=by have:=hl.2 h;omega
   simp(disch:=assumption)only[go_sem,d236,EA,dt];unfold bZ dj;rw[bm (aa: -((n:Nat):Int)<0),mY,d_]
theorem asb(z:Int):aS 231 [bZ z] (bZ (-z)):=by
 refine cM (.cons (gM _) .nil) (gM _) (aT akL ?_);simp only[go_sem,d231,ZI,bZ,dj];refine use (vX _ _) ?_;simp only[go_sem,bZ,dj];have:(if(!decide (z<0))=true then-((z.natAbs:Nat):Int)else(z.natAbs:Int))= -z:=by
  by_cases h:z<0
  ·simp[h];omega
  ·simp[h];omega
 rw[this]
theorem BK(z:Int):aS 165 [bZ z] (.bool (decide (z=0))):=by
 refine cM (.cons (gM _) .nil) (.bool _) (aT akj ?_);have hl:=ji z.natAbs;have e:decide ((((aq z.natAbs).length:Nat):Int)=0)=decide (z=0):=decide_eq_decide.2 aa;simp only[go_sem,d165,X8,bZ,dj,e]
theorem agw:aq 1=[1]:=Fq ag ag
end Go.Proofs.YtddhncjmaahodaaGreatDoor
namespace Go.aD
def tz(n:Nat):Nat:=if h:n=0∨n%2=1 then 0 else 1+tz (n/2)
termination_by n
decreasing_by omega
variable{a:Nat}
theorem R9(h:a%2=1):tz a=0:=by rw[tz];simp[h]
theorem R8(b:a≠0)(h:a%2=0):tz a=1+tz (a/2):=by
 rw[tz];rw[dif_neg];rintro(e|e)
 ·exact b e
 ·omega
theorem Ag(b:a≠0):a=2^tz a*(a/2^tz a)∧a/2^tz a%2=1:=by
 induction a using jG with
 |ind a f=>
  by_cases h:a%2=1
  ·rw[R9 h];simp[h]
  ·have e:a%2=0:=aa;obtain⟨c,d⟩:=f (a/2) aa aa;rw[R8 b e,js,cS,b3 (2^_) 2,←oQ];refine⟨?_,d⟩;rw[cI,←c];omega
variable{h:Nat}
theorem CZ{k:Nat}(e:h≠0)(d:h<2^k):tz h<k:=by
 obtain⟨b,f⟩:=Ag e;obtain⟨o,g⟩:∃o,o=h/2^tz h:=⟨_,rfl⟩;rw[←g]at b f;have c:2^tz h*1≤2^tz h*o:=fE _ aa;rw[←b,ef]at c;exact(Nat.pow_lt_pow_iff_right (a:=2) ag).1 (e_ c d)
theorem Pb(a b:Nat):a&&&b=2*(a/2&&&b/2)+(a%2&&&b%2):=by
 have d:=Nat.and_div_two (a:=a) (b:=b);have c:=Nat.and_mod_two_pow (a:=a) (b:=b) (n:=1);simp only[Nat.pow_one]at c;omega
theorem Pc:∀(w m:Nat),m<2^w→m&&&(2^w-1-m)=0
 |0,m,h=>by
  have:m=0:=by simp at h;exact h
  rw[this];simp
 |w+1,m,h=>by
  have b:2^(w+1)=2*2^w:=by rw[cS,b3]
  have c:0<2^w:=fR ag;rw[Pb];have a:(2^(w+1)-1-m)/2=2^w-1-m/2:=aa;rw[a,Pc w (m/2) aa];rcases Nat.mod_two_eq_zero_or_one m with h0|h0
  ·rw[h0];simp
  ·have:(2^(w+1)-1-m)%2=0:=aa;rw[this];simp
theorem Pd:∀(w n:Nat),n≠0→n<2^w→n&&&(2^w-n)=2^tz n
 |0,n,b,h=>by simp at h;exact absurd h b
 |w+1,n,b,h=>by
  have d:2^(w+1)=2*2^w:=by rw[cS,b3]
  rw[Pb];rcases Nat.mod_two_eq_zero_or_one n with he|he
  ·have a:(2^(w+1)-n)/2=2^w-n/2:=aa;rw[a,Pd w (n/2) aa aa,he,R8 b he,js 1,cS];simp;omega
  ·have a:(2^(w+1)-n)/2=2^w-1-n/2:=aa;have c:(2^(w+1)-n)%2=1:=aa;rw[a,Pc w (n/2) aa,he,c,R9 he];simp
theorem GD(k:Nat)(c:a%2=1):cu a (2^k*h)=cu a h:=by
 have b:Nat.Coprime 2 a:=by
  have:=Nat.gcd_rec 2 a;rw[c]at this;rw[Nat.Coprime,this];decide
 exact Nat.Coprime.gcd_mul_left_cancel_right h (b.pow_left k)
theorem an2(k:Nat)(b:a%2=1):cu (2^k*h) a=cu h a:=by
 rw[qf,GD k b,qf]
variable{u:Nat}
theorem ahX{y:Nat}(q:u≠0)(F:y≠0):cu u y=2^tz (u|||y)*cu (u/2^tz u) y:=by
 have s:u|||y≠0:=fun e=>q (Nat.or_eq_zero_iff.1 e).1
 obtain⟨l,g⟩:=Ag s;obtain⟨k,v⟩:∃k,k=tz (u|||y):=⟨_,rfl⟩;rw[←v]at l g⊢;have w:(u|||y)%2^k=0:=by rw[l];exact Nat.mul_mod_right _ _
 rw[Nat.or_mod_two_pow,Nat.or_eq_zero_iff]at w;have c:u=2^k*(u/2^k):=by have:=jt u (2^k);omega
 have j:y=2^k*(y/2^k):=by have:=jt y (2^k);omega
 obtain⟨X,m⟩:∃X,X=u/2^k:=⟨_,rfl⟩;obtain⟨Y,p⟩:∃Y,Y=y/2^k:=⟨_,rfl⟩;rw[Nat.or_div_two_pow,←m,←p]at g;rw[←m]at c;rw[←p]at j;obtain⟨f,r⟩:=Ag q;obtain⟨o,x⟩:∃o,o=u/2^tz u:=⟨_,rfl⟩;rw[←x]at f r⊢;have t:cu u y=2^k*cu X Y:=by
  rw[c,j,Nat.gcd_mul_left]
 have A:cu o y=cu o Y:=by rw[j,GD k r]
 rw[t,A];congr 1;have C:k≤tz u:=by
  refine jW fun D=>?_
  have e:2^k=2^tz u*(2*2^(k-tz u-1)):=by rw[←Nat.pow_succ',←gG];congr 1;omega
  rw[e]at c;rw[cI,cI]at c;have:=Nat.eq_of_mul_eq_mul_left (fR ag) (f.symm.trans c);omega
 have i:X=2^(tz u-k)*o:=by
  have e:2^tz u=2^k*2^(tz u-k):=by rw[←gG];congr 1;omega
  rw[e,cI]at f;exact Nat.eq_of_mul_eq_mul_left (fR (n:=k) (ag:0<2)) (c.symm.trans f)
 have z:X%2=1∨Y%2=1:=by
  have d:=Nat.or_mod_two_pow (a:=X) (b:=Y) (n:=1);simp only[Nat.pow_one]at d;rw[g]at d;rcases Nat.mod_two_eq_zero_or_one X with h4|h4
  ·rcases Nat.mod_two_eq_zero_or_one Y with h5|h5
   ·rw[h4,h5]at d;simp at d
   ·exact .inr h5
  ·exact .inl h4
 rcases z with h|h
 ·have B:tz u-k=0:=by
   refine Nat.eq_zero_of_not_pos fun E=>?_
   have e:2^(tz u-k)=2*2^(tz u-k-1):=by rw[←Nat.pow_succ'];congr 1;omega
   rw[i,e,cI]at h;omega
  rw[i,B,nL,iP]
 ·rw[i,an2 _ h]
end Go.aD
namespace Go.Proofs.YtddhncjmaahodaaGreatDoor
open Go.au Go.aD
def nE:List Nat:=[0,1,56,2,57,49,28,3,61,58,42,50,38,29,17,4,62,47,59,36,45,43,51,22,53,39,33,30,24,18,12,5,63,55,48,27,60,41,37,16,46,35,44,21,52,32,23,11,54,26,40,15,34,20,31,10,25,14,19,9,13,8,7,6]
def qP:List Nat:=[0,1,28,2,29,14,24,3,30,22,20,15,25,17,4,8,31,27,13,23,21,19,16,7,26,12,18,6,11,5,10,9]
def mR:List Nat:=[1,10,100,1000,10000,100000,1000000,10000000,100000000,1000000000,10000000000,100000000000,1000000000000,10000000000000,100000000000000,1000000000000000,10000000000000000,100000000000000000,1000000000000000000,10000000000000000000]
def qS(l:List Nat):List V:=l.map fun d:Nat=>V.int .u8 (d:Int)
def wh(l:List Nat):List V:=l.map fun d:Nat=>V.int .u64 (d:Int)
theorem NW(l:List Nat):bX (qS l):=bX.iff.2 fun v h=>by
 simp only[qS,kT]at h;obtain⟨d,_,rfl⟩:=h;exact .int _ _
theorem ahg(l:List Nat):bX (wh l):=bX.iff.2 fun v h=>by
 simp only[wh,kT]at h;obtain⟨d,_,rfl⟩:=h;exact .int _ _
def cU:af:=(((af.zero 5).set 0 (.cells (wh mR) 0)).set 1 (.cells (qS nE) 0)).set 4 (.cells (qS qP) 0)
@[go_sem]theorem PO:cU.next=5:=rfl
theorem lG(y:Nat):cU.get y=if y=4 then .cells (qS qP) 0 else if y=1 then .cells (qS nE) 0 else if y=0 then .cells (wh mR) 0 else .none:=by
 unfold cU;simp only[af.aK,af.e7,eq_comm]
theorem yb:yC 5 cU:=by
 refine⟨rfl,fun y a=>?_,fun y=>?_⟩
 ·rw[lG,aj aa,aj aa,aj aa]
 ·rw[lG];split
  ·exact .inr ⟨_,rfl,NW _⟩
  ·split
   ·exact .inr ⟨_,rfl,NW _⟩
   ·split
    ·exact .inr ⟨_,rfl,ahg _⟩
    ·exact .inl rfl
def GT(H:af):Prop:=Has H cU
variable{c:af}
theorem GT.nE(h:GT c):c.get 1=.cells (qS nE) 0:=h 1 _ (by rw[lG];rfl)
theorem GT.mR(h:GT c):c.get 0=.cells (wh mR) 0:=h 0 _ (by rw[lG];rfl)
theorem GT.qP(h:GT c):c.get 4=.cells (qS qP) 0:=h 4 _ (by rw[lG];rfl)
theorem GT.keep{H':af}(h:GT c)(b:∀y,y<5→H'.get y=c.get y):GT H':=fun y a e=>by
 rw[b y (yb.cells e).1];exact h y a e
theorem ga:GT cU:=fun _ _ e=>e
variable{a:Nat}
theorem GT.set(h:GT c)(b:5≤a)(o:cR):GT (c.set a o):=h.keep fun y d=>by rw[af.aK,aj aa]
theorem GT.push(h:GT c)(a:5≤c.next)(o:cR):GT (c.push o):=h.keep fun y b=>by rw[af.aY,aj aa]
def ew(f:Nat)(b:List V)(r:V):Prop:=∀H,GT H→c5 f b H fun v a=>v=r∧a=H
variable{b:List V}{r:V}
theorem eK(e:bX b)(h:c5 a b cU fun f c=>GT c∧∃v,bO c (cU.kh c.next) f v∧bA v∧v=r):ew a b r:=
 fun H d=>aoH (R:=fun v=>v=r) yb e h H d
variable{i:Option Nat}{e:Fr→af→Prop}{m:Fr}{A:FuncId}
theorem ck(h:ew A b r)(f:GT c)(g:e (put m i r) c):oM eO 5 i e m c (some (.fn A,b)):=
 (h c f).mono fun v j ⟨a,d⟩=>by rw[a,d];exact g
theorem cg{v:V}(b:GT c)(h:v=r)(a:bA r):GT c∧∃u,bO c (cU.kh c.next) v u∧bA u∧u=r:=⟨b,v,.same v,by rw[h];exact a,h⟩
variable{h:Nat}
theorem Tc{a:Nat}(b:a<18446744073709551616)(c:h<18446744073709551616):hC (ic .and) [ay (a:Int),ay (h:Int)]=some (.val (ay ((a&&&h:Nat):Int))):=by
 show some (aX.val (ay (nN (pN .u64) (eA .u64) (Nat.land (gX (eA .u64) (a:Int)) (gX (eA .u64) (h:Int))))))=_;rw[ux b,ux c,yL];rfl
variable{u:Nat}{L:Nat}{s:Int}{o:IntKind}
theorem OJ(b:0≤s∧s<a):eo (some a) h [.ptr u L,.int o s]=some (.val (.ptr u (L+s.toNat*h))):=by
 show an (gy (.int o s)) _=_;rw[mA o b.1];show aQ (bL (s.toNat+1) a) _=_;rw[ki aa];rfl
theorem aqZ:∀k,k<64→nE[2^k*285870213051353865%18446744073709551616/288230376151711744]? =some k∧2^k*285870213051353865%18446744073709551616/288230376151711744<64:=ag
theorem H8(n:Nat)(a:n≠0)(h:n<18446744073709551616):ew 313 [ay (n:Int)] (ah (tz n:Int)):=by
 refine eK (.cons (.int _ _) .nil) (aT alk ?_);have i:=CZ (k:=64) a h;have hl:=Pd 64 n a h;obtain⟨c,o⟩:=aqZ (tz n) i;have q:¬((n:Nat):Int)=0:=aa;have k:aB .u64 (-(n:Int))=((18446744073709551616-n:Nat):Int):=by rw[hL];omega
 have d:hC (ic .and) [ay (n:Int),ay ((18446744073709551616-n:Nat):Int)]=some (.val (ay ((2^tz n:Nat):Int))):=by
  rw[Tc h aa];rw[show(18446744073709551616:Nat)-n=2^64-n from rfl,hl]
 have b:aB .u64 (((2^tz n:Nat):Int)*285870213051353865)=((2^tz n*285870213051353865%18446744073709551616:Nat):Int):=by
  rw[hL,Int.natCast_emod,fY];rfl
 obtain⟨p,l⟩:∃p,p=2^tz n*285870213051353865%18446744073709551616:=⟨_,rfl⟩;rw[←l]at c o b;have m:rQ (p:Int) (ep 58 (gQ .u64))=((p/288230376151711744:Nat):Int):=rfl;have g:eo (some 64) 1 [.ptr 1 0,ay ((p/288230376151711744:Nat):Int)]=some (.val (.ptr 1 (p/288230376151711744))):=by
  rw[OJ ⟨aa,aa⟩,bH,ef,eJ]
 have j:cO (qS nE) (p/288230376151711744)=some (.int .u8 ((tz n:Nat):Int)):=by
  rw[gO,qS,iW,c];rfl
 have f:cU.get 1=.cells (qS nE) 0:=ga.nE;have e:aB .i64 ((tz n:Nat):Int)=(tz n:Int):=aI _ aa;simp(disch:=assumption)only[go_sem,d313,ach,acg,df,k,d,b,m,g,f,j,e];exact cg ga rfl (.int _ _)
theorem GJ{y:Nat}(h:a<18446744073709551616∧y<18446744073709551616):hC (ic .or) [ay (a:Int),ay (y:Int)]=some (.val (ay ((a|||y:Nat):Int))):=by
 show some (aX.val (ay (nN (pN .u64) (eA .u64) (Nat.lor (gX (eA .u64) (a:Int)) (gX (eA .u64) (y:Int))))))=_;rw[ux h.1,ux h.2,yL];rfl
theorem Ru(n k:Nat)(a:k<64):hC (ic .shr) [ay (n:Int),ah (k:Int)]=some (.val (ay ((n/2^k:Nat):Int))):=by
 rw[Tz,mS,ld (show k≤gQ .u64 from by show k≤64;omega)]
def SK(d:Nat)(s:Nat)(k:Nat)(F:Fr)(H:af):Prop:=∃x y:Nat,k=x+y∧rd 0 F=ay (x:Int)∧rd 1 F=ay (y:Int)∧rd 5 F=ah (s:Int)∧x%2=1∧x<18446744073709551616∧y<18446744073709551616∧cu x y=d∧GT H
theorem ahU(x y:Nat)(g:x<18446744073709551616)(t:y<18446744073709551616):ew 254 [ay (x:Int),ay (y:Int)] (ay (cu x y:Int)):=by
 refine eK (.cons (.int _ _) (.cons (.int _ _) .nil)) (aT ak1 ?_);by_cases f:x=0
 ·subst f;have d:hC (ic .or) [ay ((0:Nat):Int),ay (y:Int)]=some (.val (ay (y:Int))):=by rw[GJ ⟨ag,t⟩];simp
  simp only[go_sem,d254,EI,jU,decide_true]at d⊢;simp only[go_sem,d];rw[Nat.gcd_zero_left];exact cg ga rfl (.int _ _)
 have U:¬((x:Nat):Int)=0:=aa;by_cases D:y=0
 ·subst D;have d:hC (ic .or) [ay (x:Int),ay ((0:Nat):Int)]=some (.val (ay (x:Int))):=by rw[GJ ⟨g,ag⟩];simp
  simp(disch:=assumption)only[go_sem,d254,EI,df,jU,decide_true]at d⊢;simp only[go_sem,d];rw[Nat.gcd_zero_right];exact cg ga rfl (.int _ _)
 have V:¬((y:Nat):Int)=0:=aa;have C:x|||y≠0:=fun e=>f (Nat.or_eq_zero_iff.1 e).1
 have B:x|||y<18446744073709551616:=Nat.or_lt_two_pow (n:=64) g t
 have r:=ahX f D;have N:=CZ (k:=64) C B;have P:=CZ (k:=64) f g;obtain⟨W,E⟩:=Ag f;simp(disch:=first|assumption|omega)only[d254,EI,aaK,go_sem,↓reduceIte,kW,df,GJ]
 refine ck (H8 _ C B) ga ?_;simp only[go_sem,aaJ];refine ck (H8 _ f g) ga ?_;simp only[go_sem,aaI,Ru x _ P];have z:x/2^tz x<18446744073709551616:=e_ (ju _ _) g;obtain⟨o,d⟩:∃o,o=x/2^tz x:=⟨_,rfl⟩;rw[←d]at r z E⊢;obtain⟨s,M⟩:∃s,s=tz (x|||y):=⟨_,rfl⟩;rw[←M]at r N⊢;refine bK (SK (cu o y) s) (o+y) ⟨o,y,rfl,?_,?_,?_,E,z,t,rfl,ga⟩ ?_
 iterate 3 simp only[go_sem]
 rintro k Q R ⟨a,b,rfl,h,u,m,v,I,w,p,j⟩;rw[aaG];by_cases i:b=0
 ·subst i;rw[Nat.gcd_zero_right]at p;have O:hC (ic .shl) [ay (a:Int),ah (s:Int)]=some (.val (ay ((cu x y:Nat):Int))):=by
   rw[Ty,ld (show s≤gQ .u64 from by show s≤64;omega),←fY,p,b3,←r,bV];have:cu x y≤x:=Nat.gcd_le_left _ aa;omega
  simp only[go_sem,aaH,h,u,m,jU,decide_true,O];exact cg j rfl (.int _ _)
 ·have S:¬((b:Nat):Int)=0:=aa;have J:=CZ (k:=64) i w;obtain⟨F,G⟩:=Ag i;have L:b/2^tz b≤b:=ju _ _;simp(disch:=assumption)only[go_sem,aaF,u,df];refine ck (H8 _ i w) j ?_;obtain⟨c,K⟩:∃c,c=b/2^tz b:=⟨_,rfl⟩;have q:=Ru b _ J;rw[←K]at F G L q;have A:cu a c=cu o y:=by rw[←p,F,GD _ v]
  by_cases T:c<a
  ·have H:((c:Nat):Int)<((a:Nat):Int):=aa;have l:(a:Int)-(c:Int)=((a-c:Nat):Int):=aa;simp(disch:=first|assumption|omega)only[LS,LR,go_sem,↓reduceIte,kW,h,q,dt,l,bV]
   refine⟨c+(a-c),aa,c,a-c,rfl,?_,?_,?_,G,aa,aa,?_,j⟩
   iterate 3 simp only[go_sem,m]
   ·rw[Nat.gcd_sub_self_right aa,qf];exact A
  ·have H:¬((c:Nat):Int)<((a:Nat):Int):=aa;have l:(c:Int)-(a:Int)=((c-a:Nat):Int):=aa;simp(disch:=first|assumption|omega)only[LS,LR,go_sem,↓reduceIte,kW,h,q,df,l,bV]
   refine⟨a+(c-a),aa,a,c-a,rfl,?_,?_,?_,v,I,aa,?_,j⟩
   iterate 3 simp only[go_sem,h,m]
   ·rw[Nat.gcd_sub_self_right aa];exact A
def fm(a b:Int):Int:=if a<b then-1 else if b<a then 1 else 0
theorem PI(a:Int):aS 288 [ah a] aC:=by
 refine cM (.cons (.int _ _) .nil) (.bool _) (aT ak7 ?_);simp only[go_sem,d288,aa3,decide_true]
theorem PJ(a:Int):aS 355 [ay a] aC:=by
 refine cM (.cons (.int _ _) .nil) (.bool _) (aT alq ?_);simp only[go_sem,d355,ac4,decide_true]
theorem AP(a b:Int):aS 298 [ah a,ah b] (ah (fm a b)):=by
 refine cM (.cons (.int _ _) (.cons (.int _ _) .nil)) (.int _ _) (aT ala ?_);simp only[go_sem,d298,abe];refine use (PI a) ?_;simp only[go_sem,abd];refine use (PI b) ?_;by_cases c:a<b
 ·simp(disch:=assumption)only[go_sem,EM,EL,EK,dt];rw[fm,ao c]
 ·by_cases d:b<a
  ·simp(disch:=assumption)only[go_sem,EM,EL,EK,L0,dt,df];rw[fm,aj c,ao d]
  ·simp(disch:=assumption)only[go_sem,EM,EL,EK,L0,abc,df];rw[fm,aj c,aj d]
theorem Kw(a b:Int):aS 299 [ay a,ay b] (ah (fm a b)):=by
 refine cM (.cons (.int _ _) (.cons (.int _ _) .nil)) (.int _ _) (aT alb ?_);simp only[go_sem,d299,abh];refine use (PJ a) ?_;simp only[go_sem,abg];refine use (PJ b) ?_;by_cases c:a<b
 ·simp(disch:=assumption)only[go_sem,EP,EO,EN,dt];rw[fm,ao c]
 ·by_cases d:b<a
  ·simp(disch:=assumption)only[go_sem,EP,EO,EN,L1,dt,df];rw[fm,aj c,ao d]
  ·simp(disch:=assumption)only[go_sem,EP,EO,EN,L1,abf,df];rw[fm,aj c,aj d]
theorem af2(a w:Nat)(b:a<18446744073709551616)(g:0<w∧w<18446744073709551616):aS 314 [ay 0,ay (a:Int),ay (w:Int)] (.aA [ay ((a/w:Nat):Int),ay ((a%w:Nat):Int)]):=by
 refine cM (.cons (.int _ _) (.cons (.int _ _) (.cons (.int _ _) .nil))) (.aA (.cons (.int _ _) (.cons (.int _ _) .nil))) (aT OZ ?_);have e:¬((w:Nat):Int)=0:=aa;have f:(0:Int)<((w:Nat):Int):=aa;have c:a/w<18446744073709551616:=e_ (ju _ _) b;have d:aB .u64 ((a/w:Nat):Int)=((a/w:Nat):Int):=bV _ ⟨uP _,oc.2 c⟩;simp(disch:=assumption)only[go_sem,d314,Mh,Mg,Mf,df,dt,decide_true,jK,mC,s8,yc,d]
theorem Bw(w:Nat)(b:w<18446744073709551616):aS 253 [ay (w:Int)] (bl (aq w)):=by
 refine fK (.cons (.int _ _) .nil) (aT ak0 ?_);by_cases h:w=0
 ·have a:((w:Nat):Int)=0:=aa;simp(disch:=assumption)only[go_sem,d253,LQ,dt];rw[h,j3];exact⟨_,.fL,.row 0 .nil,rfl⟩
 ·have a:¬((w:Nat):Int)=0:=aa;simp(disch:=assumption)only[go_sem,d253,LQ,aaE,df];rw[Fq h b];refine⟨bl [w],.row (m:=1) (cs:=aM [w]) ?_ ag kR (cD.refl _),dW _,rfl⟩;rw[fI (cs:=aM [w]) (by simp only[go_sem];rfl)];rfl
def b7(q:Rat):List V:=[.bool (decide (q.num<0)),bl (aq q.num.natAbs),aC,bl (aq (dd q))]
def c7(q:Rat):V:=.agg (b7 q)
theorem FH(q:Rat):bX (b7 q):=.cons (.bool _) (.cons (dW _) (.cons (.bool _) (.cons (dW _) .nil)))
theorem k5(q:Rat):bA (c7 q):=.agg (FH q)
section
open Go.au Go.Proofs.Tryz
set_option maxRecDepth 100000
attribute [local irreducible] rd kc ex bF bC re rg mv bN pick alloc box bi bs ba be bq st fa b6 cF cZ cQ c9 dO dN ms cY dF dD dn mx mn dm ap dy cw dr dw bY dx ext dJ neg Go.au.not dG dB dI dH dM dK dz dL dc c_ u8
def K9:=ai 166 f166 0
def yX:=ai 166 f166 1
def yY:=ai 166 f166 2
def wZ:=ai 166 f166 3
def d166:=aU 166 f166
def akk:=aR f166 166
def X_:=ai 168 f168 0
def d168:=aU 168 f168
def OP:=aR f168 168
def K_:=ai 169 f169 0
def La:=ai 169 f169 1
def d169:=aU 169 f169
def OQ:=aR f169 169
def Ye:=ai 172 f172 0
def AY:=ai 172 f172 1
def d172:=aU 172 f172
def ako:=aR f172 172
def Yf:=ai 173 f173 0
def d173:=aU 173 f173
def akp:=aR f173 173
def Yi:=ai 177 f177 0
def Yj:=ai 177 f177 1
def Le:=ai 177 f177 2
def d177:=aU 177 f177
def aks:=aR f177 177
def Yk:=ai 178 f178 0
def Yl:=ai 178 f178 1
def Lf:=ai 178 f178 2
def d178:=aU 178 f178
def akt:=aR f178 178
def Zm:=ai 218 f218 0
def Lq:=ai 218 f218 1
def Lr:=ai 218 f218 2
def Ls:=ai 218 f218 3
def d218:=aU 218 f218
def akE:=aR f218 218
def ZJ:=ai 232 f232 2
def ZK:=ai 232 f232 3
def ZL:=ai 232 f232 4
def ZM:=ai 232 f232 5
def LD:=ai 232 f232 6
def Ew:=ai 232 f232 7
def d232:=aU 232 f232
def OU:=aR f232 232
def ZO:=ai 234 f234 0
def Ex:=ai 234 f234 1
def d234:=aU 234 f234
def akN:=aR f234 234
def ZT:=ai 237 f237 0
def ZU:=ai 237 f237 1
def LG:=ai 237 f237 2
def ZV:=ai 237 f237 3
def A0:=ai 237 f237 15
def A1:=ai 237 f237 16
def LF:=ai 237 f237 17
def d237:=aU 237 f237
def akQ:=aR f237 237
def ZW:=ai 238 f238 0
def LH:=ai 238 f238 1
def d238:=aU 238 f238
def akR:=aR f238 238
def ZX:=ai 239 f239 0
def ZY:=ai 239 f239 1
def ZZ:=ai 239 f239 2
def Z0:=ai 239 f239 3
def LI:=ai 239 f239 4
def LJ:=ai 239 f239 5
def d239:=aU 239 f239
def akS:=aR f239 239
def Z1:=ai 240 f240 0
def Z2:=ai 240 f240 1
def Z3:=ai 240 f240 2
def LK:=ai 240 f240 3
def d240:=aU 240 f240
def akT:=aR f240 240
def Z4:=ai 241 f241 0
def Z5:=ai 241 f241 1
def Z6:=ai 241 f241 2
def d241:=aU 241 f241
def akU:=aR f241 241
def aaj:=ai 249 f249 0
def aak:=ai 249 f249 1
def aaq:=ai 249 f249 2
def aar:=ai 249 f249 3
def aas:=ai 249 f249 4
def aat:=ai 249 f249 5
def aau:=ai 249 f249 6
def aav:=ai 249 f249 7
def aaw:=ai 249 f249 8
def aax:=ai 249 f249 9
def aal:=ai 249 f249 10
def EB:=ai 249 f249 11
def aam:=ai 249 f249 12
def aan:=ai 249 f249 13
def aao:=ai 249 f249 14
def aap:=ai 249 f249 15
def d249:=aU 249 f249
def akY:=aR f249 249
def EC:=ai 250 f250 0
def ED:=ai 250 f250 1
def d250:=aU 250 f250
def F6:=aR f250 250
def LO:=ai 251 f251 0
def aay:=ai 251 f251 1
def LP:=ai 251 f251 2
def aaz:=ai 251 f251 3
def aaA:=ai 251 f251 4
def aaB:=ai 251 f251 5
def aaC:=ai 251 f251 6
def aaD:=ai 251 f251 7
def d251:=aU 251 f251
def akZ:=aR f251 251
def EE:=ai 252 f252 0
def EF:=ai 252 f252 1
def w7:=ai 252 f252 2
def EG:=ai 252 f252 3
def EH:=ai 252 f252 4
def d252:=aU 252 f252
def F7:=aR f252 252
def LY:=ai 297 f297 5
def LZ:=ai 297 f297 6
def d297:=aU 297 f297
def OY:=aR f297 297
def abi:=ai 300 f300 0
def abj:=ai 300 f300 1
def L2:=ai 300 f300 2
def abk:=ai 300 f300 3
def abl:=ai 300 f300 4
def abm:=ai 300 f300 5
def abn:=ai 300 f300 6
def d300:=aU 300 f300
def alc:=aR f300 300
def abo:=ai 302 f302 0
def abp:=ai 302 f302 1
def L3:=ai 302 f302 2
def abq:=ai 302 f302 3
def abr:=ai 302 f302 4
def abt:=ai 302 f302 5
def abu:=ai 302 f302 6
def abv:=ai 302 f302 7
def abw:=ai 302 f302 8
def abx:=ai 302 f302 9
def d302:=aU 302 f302
def ald:=aR f302 302
def aby:=ai 303 f303 0
def abz:=ai 303 f303 1
def L4:=ai 303 f303 2
def abA:=ai 303 f303 3
def abB:=ai 303 f303 4
def abC:=ai 303 f303 5
def abD:=ai 303 f303 6
def abE:=ai 303 f303 7
def abF:=ai 303 f303 8
def abG:=ai 303 f303 9
def d303:=aU 303 f303
def ale:=aR f303 303
def ab6:=ai 308 f308 0
def d308:=aU 308 f308
def ali:=aR f308 308
def ab7:=ai 310 f310 0
def ab8:=ai 310 f310 1
def Ma:=ai 310 f310 2
def ab9:=ai 310 f310 3
def Mb:=ai 310 f310 4
def ab_:=ai 310 f310 5
def ab':=ai 310 f310 6
def EY:=ai 310 f310 7
def EZ:=ai 310 f310 8
def E0:=ai 310 f310 9
def ES:=ai 310 f310 10
def ET:=ai 310 f310 11
def EU:=ai 310 f310 12
def EV:=ai 310 f310 13
def EW:=ai 310 f310 14
def EX:=ai 310 f310 15
def d310:=aU 310 f310
def F8:=aR f310 310
def acJ:=ai 354 f354 0
def acK:=ai 354 f354 1
def acP:=ai 354 f354 2
def acX:=ai 354 f354 3
def acY:=ai 354 f354 4
def acZ:=ai 354 f354 5
def ac0:=ai 354 f354 6
def ac1:=ai 354 f354 7
def ac2:=ai 354 f354 8
def ac3:=ai 354 f354 9
def Mo:=ai 354 f354 10
def acL:=ai 354 f354 11
def Mp:=ai 354 f354 12
def acM:=ai 354 f354 13
def acN:=ai 354 f354 14
def acO:=ai 354 f354 19
def acQ:=ai 354 f354 20
def acR:=ai 354 f354 21
def acS:=ai 354 f354 22
def acT:=ai 354 f354 23
def acU:=ai 354 f354 24
def acV:=ai 354 f354 25
def acW:=ai 354 f354 26
def d354:=aU 354 f354
def O0:=aR f354 354
def ac5:=ai 356 f356 0
def ac6:=ai 356 f356 1
def ac8:=ai 356 f356 2
def ac9:=ai 356 f356 3
def ac_:=ai 356 f356 4
def ada:=ai 356 f356 5
def adb:=ai 356 f356 6
def ade:=ai 356 f356 7
def adf:=ai 356 f356 8
def adg:=ai 356 f356 9
def ac7:=ai 356 f356 10
def d356:=aU 356 f356
def alr:=aR f356 356
def adh:=ai 358 f358 0
def adi:=ai 358 f358 1
def Mq:=ai 358 f358 2
def adj:=ai 358 f358 3
def adk:=ai 358 f358 4
def adl:=ai 358 f358 5
def adm:=ai 358 f358 6
def adn:=ai 358 f358 7
def E1:=ai 358 f358 8
def d358:=aU 358 f358
def als:=aR f358 358
def A2:=ai 363 f363 0
def A3:=ai 363 f363 1
def w8:=ai 363 f363 2
def Ms:=ai 363 f363 3
def Mt:=ai 363 f363 4
def Mu:=ai 363 f363 5
def Mv:=ai 363 f363 6
def Mw:=ai 363 f363 7
def A4:=ai 363 f363 8
def d363:=aU 363 f363
def F9:=aR f363 363
def ads:=ai 364 f364 0
def adt:=ai 364 f364 1
def adu:=ai 364 f364 2
def adv:=ai 364 f364 3
def adw:=ai 364 f364 4
def adx:=ai 364 f364 5
def ady:=ai 364 f364 6
def d364:=aU 364 f364
def alv:=aR f364 364
def Mx:=ai 365 f365 0
def My:=ai 365 f365 1
def MA:=ai 365 f365 2
def MB:=ai 365 f365 3
def A5:=ai 365 f365 4
def adz:=ai 365 f365 5
def adA:=ai 365 f365 6
def adB:=ai 365 f365 7
def MC:=ai 365 f365 8
def MD:=ai 365 f365 9
def Mz:=ai 365 f365 10
def d365:=aU 365 f365
def alw:=aR f365 365
def adC:=ai 366 f366 0
def adD:=ai 366 f366 1
def ME:=ai 366 f366 2
def adE:=ai 366 f366 3
def adF:=ai 366 f366 4
def adG:=ai 366 f366 5
def adH:=ai 366 f366 6
def d366:=aU 366 f366
def alx:=aR f366 366
end
end Go.Proofs.YtddhncjmaahodaaGreatDoor
namespace Go.W
def val:List Nat→Nat
 |[]=>0
 |d::l=>d+18446744073709551616*val l
def az(l:List Nat):Prop:=∀d∈l,d<18446744073709551616
def aN(l:List Nat):Prop:=l.getLast?≠some 0
variable{a:Nat}{d:List Nat}
theorem az.cons(h:az (a::d)):a<18446744073709551616∧az d:=⟨h a aE,fun x b=>h x (by simp[b])⟩
theorem az.mk(h:a<18446744073709551616)(b:az d):az (a::d):=fun x hx=>by
 rcases jr.1 hx with rfl|hx
 ·exact h
 ·exact b x hx
theorem az.nil:az []:=fun _ h=>by cases h
theorem az.take(h:az d)(n:Nat):az (d.take n):=fun x a=>h x (uS a)
theorem az.drop(h:az d)(n:Nat):az (d.drop n):=fun x a=>h x (List.mem_of_mem_drop a)
theorem az.app{m:List Nat}(h:az d)(a:az m):az (d++m):=fun x hx=>by
 rcases hN.1 hx with hx|hx
 ·exact h x hx
 ·exact a x hx
theorem az.getD(h:az d)(i:Nat):d.getD i 0<18446744073709551616:=by
 rw[cy];cases e:d[i]? with
 |none=>simp
 |some x=>exact h x (eN e)
theorem gY:∀ {l:List Nat},az l→val l<18446744073709551616^l.length
 |[],_=>by simp[val]
 |d::l,h=>by
  have a:=gY h.cons.2;have b:=h.cons.1;simp only[val,cV,cS];omega
theorem fM:∀(l m:List Nat),val (l++m)=val l+18446744073709551616^l.length*val m
 |[],m=>by simp[val]
 |d::l,m=>by
  simp only[eL,val,cV,cS,fM l m,cr];rw[b3 (18446744073709551616^l.length) 18446744073709551616,cI,mo]
theorem HL(h:a<d.length):d=d.take a++d.getD a 0::d.drop (a+1):=by
 rw[cy,cx h];simp
theorem qT{l:List Nat}{i:Nat}(h:i<l.length):val l=val (l.take i)+18446744073709551616^i*(l.getD i 0+18446744073709551616*val (l.drop (i+1))):=by
 have e:=congrArg val (HL h);rw[fM,g_ (hO h)]at e;exact e
variable{h:Nat}
theorem zk{a:List Nat}(e:az a)(hi:h<a.length)(f:h<d.length)(b:a.drop (h+1)=d.drop (h+1))(i:a.getD h 0<d.getD h 0):val a<val d:=by
 rw[qT hi,qT f,b];have c:=gY (e.take h);rw[g_ (hO hi)]at c;have g:18446744073709551616^h*(a.getD h 0+18446744073709551616*val (d.drop (h+1)))+18446744073709551616^h≤18446744073709551616^h*(d.getD h 0+18446744073709551616*val (d.drop (h+1))):=by
  rw[←Nat.mul_succ];exact fE _ aa
 omega
theorem aN.pos(h:aN d)(a:d≠[]):18446744073709551616^(d.length-1)≤val d:=by
 have hl:0<d.length:=List.length_pos_iff.2 a;have hi:d.length-1<d.length:=aa;rw[qT hi];have:d.getD (d.length-1) 0≠0:=by
  intro e;refine h ?_;rw[List.getLast?_eq_getElem?,cx hi];rw[cy,cx hi]at e;exact congrArg some e
 have b:18446744073709551616^(d.length-1)*1≤18446744073709551616^(d.length-1)*(d.getD (d.length-1) 0+18446744073709551616*val (d.drop (d.length-1+1))):=fE _ aa;omega
theorem sU{a:List Nat}(b:az a)(c:aN d)(h:a.length<d.length):val a<val d:=by
 have f:=gY b;have g:=c.pos (by intro e;rw[e]at h;exact absurd h (m5 _));have i:18446744073709551616^a.length≤18446744073709551616^(d.length-1):=gw aa aa;omega
theorem val_inj:∀ {a b:List Nat},az a→az b→a.length=b.length→val a=val b→a=b
 |[],[],_,_,_,_=>rfl
 |x::a,y::b,c,d,hl,h=>by
  have g:=c.cons.1;have i:=d.cons.1;simp only[val]at h;have e:x=y:=aa;have f:val a=val b:=aa;rw[e,val_inj c.cons.2 d.cons.2 (by simpa using hl) f]
theorem canon{a:List Nat}(b:az a)(c:az d)(e:aN a)(f:aN d)(h:val a=val d):a=d:=by
 rcases Nat.lt_trichotomy a.length d.length with h1|h1|h1
 ·have:=sU b f h1;omega
 ·exact val_inj b c h1 h
 ·have:=sU c e h1;omega
def trim:List Nat→List Nat
 |[]=>[]
 |d::l=>if trim l=[]∧d=0 then []else d::trim l
theorem yh(l:List Nat):trim (l++[0])=trim l:=by
 induction l with
 |nil=>rfl
 |cons d l a=>simp only[eL,trim,a]
theorem yf(l:List Nat)(d:Nat)(h:d≠0):trim (l++[d])=l++[d]:=by
 induction l with
 |nil=>simp[trim,h]
 |cons e l a=>simp only[eL,trim,a];simp
theorem yo:∀l,val (trim l)=val l
 |[]=>rfl
 |d::l=>by
  have a:=yo l;unfold trim;split
  ·rename_i h;rw[h.1]at a;simp only[val]at a⊢;omega
  ·simp only[val,a]
theorem yg:∀ {l:List Nat},az l→az (trim l)
 |[],h=>h
 |d::l,h=>by
  unfold trim;split
  ·exact az.nil
  ·exact .mk h.cons.1 (yg h.cons.2)
theorem Aa:∀l,aN (trim l)
 |[]=>by simp[trim,aN]
 |d::l=>by
  have a:=Aa l;unfold trim;split
  ·simp[aN]
  ·rename_i h;unfold aN at*;cases e:trim l with
   |nil=>
    rw[e]at h;simp at h;simpa using h
   |cons x m=>
    rw[e]at a;simpa using a
def aO(n:Nat):List Nat:=if h:n=0 then []else n%18446744073709551616::aO (n/18446744073709551616)
termination_by n
decreasing_by omega
theorem iZ:aO 0=[]:=by unfold aO;simp
theorem o5(h:a≠0):aO a=a%18446744073709551616::aO (a/18446744073709551616):=by rw[aO];simp[h]
theorem fQ(n:Nat):val (aO n)=n:=by
 induction n using jG with
 |ind n a=>
  by_cases h:n=0
  ·subst h;rw[iZ];rfl
  ·rw[o5 h];simp only[val,a (n/18446744073709551616) aa];omega
theorem gW(n:Nat):az (aO n):=by
 induction n using jG with
 |ind n a=>
  by_cases h:n=0
  ·subst h;rw[iZ];exact az.nil
  ·rw[o5 h];exact .mk aa (a _ aa)
theorem pT(n:Nat):aN (aO n):=by
 induction n using jG with
 |ind n b=>
  by_cases h:n=0
  ·subst h;rw[iZ];simp[aN]
  ·rw[o5 h];have:=b (n/18446744073709551616) aa;unfold aN at*;cases e:aO (n/18446744073709551616)with
   |nil=>
    by_cases a:n/18446744073709551616=0
    ·have:n%18446744073709551616≠0:=aa;simpa using this
    ·rw[o5 a]at e;cases e
   |cons x m=>
    rw[e]at this;simpa using this
theorem A7(h:az d)(t:aN d):aO (val d)=d:=canon (gW _) h (pT _) t (fQ _)
theorem pU(h:az d):trim d=aO (val d):=by
 rw[←yo d];exact(A7 (yg h) (Aa d)).symm
variable{u:Nat}
theorem vi(c:h<18446744073709551616^u):(aO h).length≤u:=by
 by_cases e:aO h=[]
 ·rw[e];exact b4 _
 ·have b:=(pT h).pos e;rw[fQ]at b;have d:(aO h).length-1<u:=(Nat.pow_lt_pow_iff_right (a:=18446744073709551616) aa).1 aa;omega
section
variable {q top u2 mg v1 v2 nG W U V:Nat}
theorem ze(c:V=(v1*18446744073709551616+v2)*W+nG)(b:U=(top*18446744073709551616+u2)*W+mg)(g:mg<W)(f:q*V≤U):q*(v1*18446744073709551616+v2)≤top*18446744073709551616+u2:=by
 obtain⟨X,d⟩:∃X,X=v1*18446744073709551616+v2:=⟨_,rfl⟩;obtain⟨T,hT⟩:∃T,T=top*18446744073709551616+u2:=⟨_,rfl⟩;rw[←d]at c⊢;rw[←hT]at b⊢;have e:q*X*W≤q*V:=by
  rw[cI];exact fE _ aa
 have a:q*X*W<(T+1)*W:=by
  rw[eu,iP];omega
 have:=tE a;omega
theorem BP(b:V=(v1*18446744073709551616+v2)*W+nG)(a:U=(top*18446744073709551616+u2)*W+mg)(d:mg<W)(f:u2<18446744073709551616)(e:0<v1)(c:q*V≤U):q≤top/v1:=by
 have h:=ze b a d c;rw[cr,←cI]at h;rw[tD e];omega
theorem BQ{h r:Nat}(c:V=(v1*18446744073709551616+v2)*W+nG)(b:U=(top*18446744073709551616+u2)*W+mg)(f:mg<W)(d:q*V≤U)(e:top=h*v1+r)(j:r*18446744073709551616+u2<h*v2):q<h:=by
 rcases oe q h with h1|h1
 ·exact h1
 ·have g:=ze c b f d;have a:h*(v1*18446744073709551616+v2)≤q*(v1*18446744073709551616+v2):=ee _ h1;rw[cr,←cI]at a;have i:top*18446744073709551616=h*v1*18446744073709551616+r*18446744073709551616:=by rw[e,eu]
  omega
theorem BR(d:V=(v1*18446744073709551616+v2)*W+nG)(c:U=(top*18446744073709551616+u2)*W+mg)(l:nG<W)(p:0<v1)(k:top=a*v1+h)(hh:a<18446744073709551616)(o:a*v2≤h*18446744073709551616+u2):(a-1)*V≤U:=by
 cases a with
 |zero=>simp
 |succ g=>
  have m:top*18446744073709551616=(g+1)*v1*18446744073709551616+h*18446744073709551616:=by rw[k,eu]
  have b:(g+1)*(v1*18446744073709551616+v2)≤top*18446744073709551616+u2:=by
   rw[cr,←cI];omega
  have j:18446744073709551616≤v1*18446744073709551616+v2:=aa;obtain⟨X,f⟩:∃X,X=v1*18446744073709551616+v2:=⟨_,rfl⟩;obtain⟨T,e⟩:∃T,T=top*18446744073709551616+u2:=⟨_,rfl⟩;rw[←f]at d b j;rw[←e]at c b;have i:(g+1)*X*W≤T*W:=ee _ b;rw[eu g 1 X,iP,eu]at i;have n:g*nG≤X*W:=jX aa (hO l);show g*V≤U;rw[d,c,cr,←cI];omega
end
theorem rW:∀ {l:List Nat}{k:Nat},(∀p,k≤p→l.getD p 0=0)→val l=val (l.take k)
 |[],_,_=>aE
 |d::l,0,h=>by
  have b:=h 0 (aF _);have a:=rW (l:=l) (k:=0) (fun p _=>by simpa using h (p+1) (b4 _));simp at b a;simp[val,b,a]
 |d::l,k+1,h=>by
  have a:=rW (l:=l) (k:=k) (fun p c=>by simpa using h (p+1) aa);simp only[List.take_succ_cons,val,a]
theorem pW(l:List Nat)(j:Nat)(h:j≤l.length):val l=val (l.take j)+18446744073709551616^j*val (l.drop j):=by
 have:=congrArg val (qc j l);rw[fM,g_ h]at this;exact this.symm
theorem sJ(l:List Nat)(j p:Nat):(l.drop j).getD p 0=l.getD (j+p) 0:=by
 simp[cy,uR]
theorem uG{l:List Nat}{i:Nat}(h:i<l.length):val (l.drop i)=l.getD i 0+18446744073709551616*val (l.drop (i+1)):=by
 rw[lz h,cy,cx h];rfl
theorem vD{l:List Nat}{n:Nat}(e:2≤n)(f:n≤l.length)(d:∀p,n≤p→l.getD p 0=0):val l=(l.getD (n-1) 0*18446744073709551616+l.getD (n-2) 0)*18446744073709551616^(n-2)+val (l.take (n-2)):=by
 have c:val (l.drop n)=0:=by
  have:=rW (l:=l.drop n) (k:=0) (fun p _=>by rw[sJ];exact d _ aa);simpa [val]using this
 have a:=qT (l:=l) (i:=n-2) aa;have b:=uG (l:=l) (i:=n-1) aa;rw[(aa:n-1+1=n)]at b;rw[(aa:n-2+1=n-1)]at a;rw[a,b,c,fy,cG,b3 _ (18446744073709551616^(n-2)),js (val _),js (l.getD (n-2) 0),b3 18446744073709551616]
section
variable {T U V h k bT P Q It SB C8 asy q:Nat}
end
def shr(s:Nat):List Nat→List Nat
 |[]=>[]
 |[d]=>[d/2^s]
 |d::e::l=>(d/2^s+(e%2^s)*2^(64-s))::shr s (e::l)
theorem s6(s:Nat):∀l,(shr s l).length=l.length
 |[]=>rfl
 |[_]=>rfl
 |d::e::l=>by simp[shr,s6 s (e::l)]
theorem Ab(b:a≤63):(18446744073709551616:Nat)=2^a*2^(64-a):=by
 rw[←gG,(aa:a+(64-a)=64)]
theorem x3(b:a≤63):∀l,val (shr a l)=val l/2^a
 |[]=>by simp[shr,val]
 |[d]=>by simp[shr,val]
 |d::e::l=>by
  have i:=x3 b (e::l);have h:0<2^a:=fR aa;have f:val (e::l)%2^a=e%2^a:=by
   show(e+18446744073709551616*val l)%2^a=e%2^a;rw[Ab b,cI,Nat.add_mul_mod_self_left]
  have g:val (d::e::l)/2^a=d/2^a+2^(64-a)*val (e::l):=by
   show(d+18446744073709551616*val (e::l))/2^a=_;rw[Ab b,cI,Nat.add_mul_div_left _ _ h]
  have c:=jt (val (e::l)) (2^a);rw[f]at c;rw[g];show d/2^a+(e%2^a)*2^(64-a)+18446744073709551616*val (shr a (e::l))=_;rw[i,Ab b,uW (2^a),b3 (2^a*(val (e::l)/2^a)),b3 (e%2^a),mo,←cr,js (e%2^a),c]
theorem vW(b:a≤63):∀ {l},az l→az (shr a l)
 |[],h=>h
 |[d],h=>by
  have:=h.cons.1;exact .mk (e_ (ju _ _) this) az.nil
 |d::e::l,h=>by
  refine .mk ?_ (vW b h.cons.2);have c:0<2^a:=fR aa;have g:=h.cons.1;have i:d/2^a<2^(64-a):=by
   rw[q8 c,b3,←Ab b];exact g
  have f:(e%2^a+1)*2^(64-a)≤2^a*2^(64-a):=ee _ (eX _ c);rw[←Ab b,eu,iP]at f;omega
theorem x2{s:Nat}:∀ {l:List Nat}{i:Nat},i<l.length→(shr s l).getD i 0=l.getD i 0/2^s+(l.getD (i+1) 0%2^s)*2^(64-s)
 |[],_,h=>absurd h (m5 _)
 |[d],0,_=>by simp[shr]
 |[_],_+1,h=>by simp at h
 |d::e::l,0,_=>by simp[shr]
 |d::e::l,i+1,h=>by
  have a:=x2 (s:=s) (l:=e::l) (i:=i) (by simpa using h);simpa [shr]using a
end Go.W
namespace Go.aD
structure od (fk kF bT u1 u2 v0 v1 v2 f s:Nat) (jm:Bool):Prop where
 hF:fk=v2*f+v1*s
 hS:kF=u2*f+u1*s
 hd:(jm=true→u2*v1=u1*v2+1)∧(jm=false→u1*v2=u2*v1+1)
 sf:s≤f
 fp:1≤f
 Ie:1≤v2
 Ic:u2≤v2
 ph:(v1=0∧v0=0∧u1=1∧u2=0∧v2=1)∨(1≤v1∧u1≤v1∧(v0=0∧jm=true∨1≤v0∧bT≤v0)∧∃p,fk=v1*p+v0*f∧kF=u1*p+bT*f∧v1≤f∧f+v0+v1≤p∧(jm=true→bT*v1=u1*v0+1)∧(jm=false→u1*v0=bT*v1+1))
variable{a:Nat}{h:Nat}
theorem od.start(b:h≤a)(c:1≤a):od a h 0 1 0 0 0 1 a h false:=
 ⟨aa,aa,⟨(fun b=>by cases b),fun _=>rfl⟩,b,c,aF _,aa,.inl ⟨rfl,rfl,rfl,rfl,rfl⟩⟩
theorem rH{a:Nat}(b:1≤h):a≤a*h:=by
 have:=fE a b;omega
section
variable {fk kF bT u1 u2 v0 v1 v2 f s:Nat}{jm:Bool}
theorem od.small(h:od fk kF bT u1 u2 v0 v1 v2 f s jm):v2≤fk∧(1≤s→v1+v2≤fk):=by
 have b:=h.hF;have c:v2≤v2*f:=rH h.fp;refine⟨aa,fun a=>?_⟩;have d:v1≤v1*s:=rH a;omega
theorem od.step(h:od fk kF bT u1 u2 v0 v1 v2 f s jm)(m:v2≤s)(y:s+(v1+v2)≤f):od fk kF u1 u2 (u1+f/s*u2) v1 v2 (v1+f/s*v2) s (f%s) (!jm):=by
 have o:=h.Ie;have k:0<s:=aa;obtain⟨q,i⟩:∃q,q=f/s:=⟨_,rfl⟩;obtain⟨r,j⟩:∃r,r=f%s:=⟨_,rfl⟩;have B:f=s*q+r:=by rw[i,j];exact(jt f s).symm
 have E:r<s:=by rw[j];exact eX _ k
 have n:1≤q:=by rw[i];exact(tD k).2 aa
 rw[←i,←j];clear i j;have z:=h.hF;have A:=h.hS;have p:v2*f=v2*s*q+v2*r:=by grind
 have t:u2*f=u2*s*q+u2*r:=by grind
 have u:(v1+q*v2)*s=v1*s+v2*s*q:=by
  grind
 have v:(u1+q*u2)*s=u1*s+u2*s*q:=by
  grind
 have w:(u1+q*u2)*v2=u1*v2+u2*v2*q:=by
  grind
 have x:u2*(v1+q*v2)=u2*v1+u2*v2*q:=by
  grind
 have D:v2≤q*v2:=by rw[b3];exact rH n
 have l:=h.Ic;have C:q*u2≤q*v2:=fE _ l;refine⟨aa,aa,⟨fun g=>?_,fun g=>?_⟩,aa,aa,aa,?_,.inr ⟨o,l,?_,f,aa,aa,m,aa,fun g=>?_,fun g=>?_⟩⟩
 ·have:=h.hd.2 (by simpa using g);omega
 ·have:=h.hd.1 (by simpa using g);omega
 ·rcases h.ph with⟨a,b,c,d,e⟩|⟨a,b,_⟩
  ·grind
  ·omega
 ·rcases h.ph with⟨a,b,c,d,e⟩|⟨a,b,_⟩
  ·refine .inl ⟨a,?_⟩;cases jm with
   |false=>rfl
   |true=>
    have:=h.hd.1 rfl
    grind
  omega
 ·have:=h.hd.2 (by simpa using g);omega
 ·have:=h.hd.1 (by simpa using g);omega
structure tu (a b bT u1 v0 v1:Nat) (jm:Bool) (a' b':Nat):Prop where
 GB:jm=true→bT*a=v0*b+a'∧v1*b=u1*a+b'
 ev:jm=false→v0*b=bT*a+a'∧u1*a=v1*b+b'
 le:b'≤a'
 ba:a=v1*a'+v0*b'
 bb:b=u1*a'+bT*b'
variable{u:Nat}{L:Nat}
theorem od.pair(b:od fk kF bT u1 u2 v0 v1 v2 f s jm)(k:v0≠0){X a:Nat}(D:a=X*fk+h)(m:h<X)(E:L=X*kF+u)(n:u<X):∃o q,tu a L bT u1 v0 v1 jm o q:=by
 rcases b.ph with⟨_,l,_⟩|⟨l,r,c,p,e,g,t,v,w,x⟩
 ·exact absurd l k
 rcases c with⟨c,_⟩|⟨_,c⟩
 ·exact absurd c k
 have F:v0*u≤v0*X:=fE _ (hO n);have G:bT*h≤bT*X:=fE _ (hO m);have H:v1*u≤v1*X:=fE _ (hO n);have I:u1*h≤u1*X:=fE _ (hO m);have J:bT*X≤v0*X:=ee _ c;have K:u1*X≤v1*X:=ee _ r;have M:f*X+v0*X+v1*X≤p*X:=by
  rw[←eu,←eu];exact ee _ v
 have N:v1*X≤f*X:=ee _ t;cases jm with
 |true=>
  have d:=w rfl;have y:bT*fk=v0*kF+p:=by
   have:bT*v1*p=u1*v0*p+p:=by grind
   rw[e,g,cr,cr,←cI,←cI,←cI,←cI,b3 v0 u1,b3 v0 bT];omega
  have z:v1*kF=u1*fk+f:=by
   have:bT*v1*f=u1*v0*f+f:=by grind
   rw[e,g,cr,cr,←cI,←cI,←cI,←cI,b3 v1 u1,b3 v1 bT];omega
  have bB:bT*a=X*(v0*kF)+p*X+bT*h:=by
   grind
  have A:v0*L=X*(v0*kF)+v0*u:=by
   grind
  have B:v1*L=X*(u1*fk)+f*X+v1*u:=by
   grind
  have C:u1*a=X*(u1*fk)+u1*h:=by
   grind
  refine⟨p*X+bT*h-v0*u,f*X+v1*u-u1*h,⟨fun _=>⟨aa,aa⟩,fun b=>(by cases b),aa,?_,?_⟩⟩
  ·have i:bT*a=v0*L+(p*X+bT*h-v0*u):=aa;have j:v1*L=u1*a+(f*X+v1*u-u1*h):=aa
   grind
  ·have i:bT*a=v0*L+(p*X+bT*h-v0*u):=aa;have j:v1*L=u1*a+(f*X+v1*u-u1*h):=aa
   grind
 |false=>
  have d:=x rfl;have y:v0*kF=bT*fk+p:=by
   have:u1*v0*p=bT*v1*p+p:=by grind
   rw[e,g,cr,cr,←cI,←cI,←cI,←cI,b3 v0 u1,b3 v0 bT];omega
  have z:u1*fk=v1*kF+f:=by
   have:u1*v0*f=bT*v1*f+f:=by grind
   rw[e,g,cr,cr,←cI,←cI,←cI,←cI,b3 v1 u1,b3 v1 bT];omega
  have bB:v0*L=X*(bT*fk)+p*X+v0*u:=by
   grind
  have A:bT*a=X*(bT*fk)+bT*h:=by
   grind
  have B:u1*a=X*(v1*kF)+f*X+u1*h:=by
   grind
  have C:v1*L=X*(v1*kF)+v1*u:=by
   grind
  refine⟨p*X+v0*u-bT*h,f*X+u1*h-v1*u,⟨fun b=>(by cases b),fun _=>⟨aa,aa⟩,aa,?_,?_⟩⟩
  ·have i:v0*L=bT*a+(p*X+v0*u-bT*h):=aa;have j:u1*a=v1*L+(f*X+u1*h-v1*u):=aa
   grind
  ·have i:v0*L=bT*a+(p*X+v0*u-bT*h):=aa;have j:u1*a=v1*L+(f*X+u1*h-v1*u):=aa
   grind
end
variable{u:Nat}{L:Nat}{n:Bool}
theorem tu.gcd{a v0 v1 f g:Nat}(b:tu a h u L v0 v1 n f g):cu f g=cu a h:=by
 refine Nat.dvd_antisymm (Nat.dvd_gcd ?_ ?_) (Nat.dvd_gcd ?_ ?_)
 ·rw[b.ba]
  grind [Nat.dvd_add,Nat.dvd_trans,Nat.gcd_dvd_left,Nat.dvd_mul_left,Nat.gcd_dvd_right]
 ·rw[b.bb]
  grind [Nat.dvd_add,Nat.dvd_trans,Nat.gcd_dvd_left,Nat.dvd_mul_left,Nat.gcd_dvd_right]
 ·have c:∀x,cu a h∣x*a:=fun x=>Nat.dvd_trans (Nat.gcd_dvd_left _ _) (Nat.dvd_mul_left _ _)
  have d:∀x,cu a h∣x*h:=fun x=>Nat.dvd_trans (Nat.gcd_dvd_right _ _) (Nat.dvd_mul_left _ _)
  cases n with
  |true=>have e:=(b.GB rfl).1;exact(Nat.dvd_add_right (d v0)).1 (e▸c u)
  |false=>have e:=(b.ev rfl).1;exact(Nat.dvd_add_right (c u)).1 (e▸d v0)
 ·have c:∀x,cu a h∣x*a:=fun x=>Nat.dvd_trans (Nat.gcd_dvd_left _ _) (Nat.dvd_mul_left _ _)
  have d:∀x,cu a h∣x*h:=fun x=>Nat.dvd_trans (Nat.gcd_dvd_right _ _) (Nat.dvd_mul_left _ _)
  cases n with
  |true=>have e:=(b.GB rfl).2;exact(Nat.dvd_add_right (c L)).1 (e▸d v1)
  |false=>have e:=(b.ev rfl).2;exact(Nat.dvd_add_right (d v1)).1 (e▸c L)
theorem tu.less{a v0 v1 b c:Nat}(d:tu a h u L v0 v1 n b c)(e:1≤v0)(f:1≤v1)(g:0<h):b+c<a+h:=by
 have:=d.ba;have i:b≤v1*b:=by rw[b3];exact rH f
 have j:c≤v0*c:=by rw[b3];exact rH e
 omega
theorem ana(p:h<18446744073709551616)(q:u<18446744073709551616):∃a b c d,h%4294967296*(u%4294967296)=a∧h/4294967296*(u%4294967296)=b∧h%4294967296*(u/4294967296)=c∧h/4294967296*(u/4294967296)=d∧
 a≤18446744065119617025∧b≤18446744065119617025∧c≤18446744065119617025∧d≤18446744065119617025∧h*u=d*18446744073709551616+(b+c)*4294967296+a:=by
 have n:h=h/4294967296*4294967296+h%4294967296:=aa;have o:u=u/4294967296*4294967296+u%4294967296:=aa;have j:h/4294967296≤4294967295:=aa;have k:u/4294967296≤4294967295:=aa;have l:h%4294967296≤4294967295:=aa;have m:u%4294967296≤4294967295:=aa;obtain⟨s,f⟩:∃t,t=h/4294967296:=⟨_,rfl⟩;obtain⟨w,i⟩:∃t,t=u/4294967296:=⟨_,rfl⟩;obtain⟨r,e⟩:∃t,t=h%4294967296:=⟨_,rfl⟩;obtain⟨v,g⟩:∃t,t=u%4294967296:=⟨_,rfl⟩;rw[←f,←e]at n;rw[←i,←g]at o;rw[←f]at j;rw[←i]at k;rw[←e]at l;rw[←g]at m;rw[←f,←i,←e,←g];refine⟨_,_,_,_,rfl,rfl,rfl,rfl,jX l m,jX j m,jX l k,jX j k,?_⟩
 grind
structure lN (u d v1 v0 q r:Nat):Prop where
 top:u=q*v1+r
 ge:(u*4294967296+d)/(v1*4294967296+v0)≤q
theorem lN.start(c:h<4294967296)(b:0<u):lN a h u L (a/u) (a%u):=by
 refine⟨by grind [b3,jt],?_⟩;have d:0<u*4294967296+L:=aa;refine BP (top:=a) (u2:=h) (v1:=u) (v2:=L) (W:=1) (nG:=0) (mg:=0) (V:=u*4294967296+L) (U:=a*4294967296+h) aa aa aa c b ?_;exact wG _ _
theorem lN.down{q r:Nat}(b:lN a h u L q r)(g:h<4294967296)(d:0<u)(c:r*4294967296+h<q*L):lN a h u L (q-1) (r+u):=by
 have f:=BQ (q:=(a*4294967296+h)/(u*4294967296+L)) (top:=a) (u2:=h) (v1:=u) (v2:=L) (h:=q) (r:=r) (W:=1) (nG:=0) (mg:=0) (V:=u*4294967296+L) (U:=a*4294967296+h) aa aa aa (wG _ _) b.top c;have e:q*u=(q-1)*u+u:=by
  cases q with
  |zero=>omega
  |succ q=>grind
 exact⟨by have:=b.top;omega,aa⟩
theorem lN.done{q r:Nat}(b:lN a h u L q r)(c:0<u)(d:q*L≤r*4294967296+h):q=(a*4294967296+h)/(u*4294967296+L):=by
 refine Nat.le_antisymm ?_ b.ge;rw[tD aa,cr,←cI];have:=b.top;omega
end Go.aD
namespace Go.Proofs.YtddhncjmaahodaaGreatDoor
open Go.au Go.aD
theorem xe(n:Nat):aq n=W.aO n:=by
 induction n using jG with
 |ind n a=>
  by_cases h:n=0
  ·rw[h,j3,W.iZ]
  ·rw[Fp h,W.o5 h,a _ aa]
theorem gz(n:Nat):W.az (aq n):=by rw[xe];exact W.gW n
theorem Bd(n:Nat):W.aN (aq n):=by rw[xe];exact W.pT n
theorem gu(n:Nat):W.val (aq n)=n:=by rw[xe];exact W.fQ n
variable{d:List Nat}
theorem agx(h:W.az d)(t:W.aN d):aq (W.val d)=d:=by rw[xe];exact W.A7 h t
theorem me(h:W.az d):W.trim d=aq (W.val d):=by rw[xe];exact W.pU h
variable{a:Nat}{h:Nat}
theorem vk(b:a<18446744073709551616^h):(aq a).length≤h:=by rw[xe];exact W.vi b
theorem nS(n:Nat):n<18446744073709551616^(aq n).length:=by
 have:=W.gY (gz n);rwa[gu]at this
theorem lT{m n:Nat}(h:m≤n):(aq m).length≤(aq n).length:=vk (e_ h (nS n))
variable{s:Int}
theorem nQ{a:Int}(h:a<s):fm a s= -1:=by rw[fm,ao h]
theorem AQ{a:Int}(h:a=s):fm a s=0:=by rw[fm,aj aa,aj aa]
theorem nP{a:Int}(h:s<a):fm a s=1:=by rw[fm,aj aa,ao h]
theorem ve(m n:Nat)(z:(aq m).length<1000000)(A:(aq n).length<1000000):aS 235 [bl (aq m),bl (aq n)] (ah (fm m n)):=by
 refine cM (.cons (dW _) (.cons (dW _) .nil)) (.int _ _) (aT akO ?_);have p:=gz m;have q:=gz n;have u:=Bd m;have v:=Bd n;have w:=gu m;have x:=gu n;generalize aq m=a at*
 generalize aq n=b at*
 subst w x;rcases Nat.lt_trichotomy a.length b.length with h|h|h
 ·have o:=W.sU p v h;simp(disch:=omega)only[go_sem,d235,Ez,df];refine use (AP _ _) ?_;simp only[go_sem];rw[nQ aa,nQ aa]
 ·simp(disch:=omega)only[go_sem,d235,Ez,ZS,dt,aI];refine bK (fun k F r=>∃j:Nat,rd 0 F=bl a∧rd 1 F=bl b∧rd 5 F=ah ((j:Int)-1)∧k=j∧j≤a.length∧a.drop j=b.drop j) a.length ⟨a.length,?_,?_,?_,rfl,aF _,?_⟩ ?_
  iterate 3 simp only[go_sem]
  ·rw[jF (aF _),jF aa]
  rintro j F r ⟨_,c,d,e,rfl,y,f⟩;rw[ZQ];cases j with
  |zero=>
   have s:a=b:=by simpa using f
   simp(disch:=omega)only[go_sem,ZR,e,dt];rw[AQ (by rw[s])]
  |succ i=>
   have hi:(((i+1:Nat):Int)-1).toNat=i:=aa;have g:i<a.length:=aa;have l:i<b.length:=aa;rcases Nat.lt_trichotomy (a.getD i 0) (b.getD i 0)with t|heq|hgt
   ·have o:=W.zk p g l f t;simp(disch:=omega)only[go_sem,Ey,c,d,e,df,gU,hi,dY];refine use (Kw _ _) ?_;simp only[go_sem];rw[nQ aa,nQ aa]
   ·simp(disch:=omega)only[go_sem,Ey,ZP,c,d,e,dt,df,gU,hi,dY,aI];refine⟨i,aa,i,?_,?_,?_,rfl,aa,?_⟩
    iterate 2 simp only[go_sem,c,d]
    ·simp only[go_sem];congr 1;omega
    ·rw[lz g,lz l,f];congr 1;simpa [cy,g,l]using heq
   ·have o:=W.zk q l g f.symm hgt;simp(disch:=omega)only[go_sem,Ey,c,d,e,df,gU,hi,dY];refine use (Kw _ _) ?_;simp only[go_sem];rw[nP aa,nP aa]
 ·have o:=W.sU q u h;simp(disch:=omega)only[go_sem,d235,Ez,df];refine use (AP _ _) ?_;simp only[go_sem];rw[nP aa,nP aa]
variable{u:Nat}{L:Nat}{o:IntKind}
theorem CF{c:IntKind}{b:Int}(e:0≤s∧s≤b∧b≤u∧u≤L∧s<L):slice3 (j_ a) true true false [.slice h 0 u (.known L),.int o s,.int c b]=some (.val (.slice h (s.toNat*a) (b.toNat-s.toNat) (.known (L-s.toNat)))):=by
 show qN h 0 u L a (some (.int o s)) (some (.int c b))=_;unfold qN;rw[sv (l:=s.toNat) (h:=b.toNat) (mA o e.1) (mA c aa) aa aa];show some (aX.val (.slice h (Bool.casesOn (motive:=fun _=>Nat) (bn L s.toNat) (gF 0 (eM s.toNat a)) 0) (jv b.toNat s.toNat) (.known (jv L s.toNat))))=_;rw[show bn L s.toNat=false from lq.2 fun d=>by have:=(beq_eq _ _).1 d;omega];have:gF 0 (eM s.toNat a)=s.toNat*a:=by show 0+s.toNat*a=_;omega
 show some (aX.val (.slice h (gF 0 (eM s.toNat a)) (jv b.toNat s.toNat) (.known (jv L s.toNat))))=_;rw[this];rfl
theorem CW:∀l:List Nat,W.trim l=l.take (W.trim l).length
 |[]=>rfl
 |d::l=>by
  have a:=CW l;unfold W.trim;split
  ·rfl
  ·simp only[cV,List.take_succ_cons];rw[←a]
theorem arn(l g:List Nat)(b c:Nat)(p:l.length≤c)(hl:l.length<4294967296)(H:af)(h:H.get b=.cells (aM (l++g)) 0):
 c5 252 [.slice b 0 l.length (.known c)] H fun v d=>v=.slice b 0 (W.trim l).length (.known c)∧d=H:=by
 refine aT F7 ?_;simp only[go_sem,d252,EH,EG];refine bK (fun k F d=>∃m:Nat,rd 0 F=.slice b 0 l.length (.known c)∧rd 3 F=ah (m:Int)∧W.trim (l.take m)=W.trim l∧k=m∧m≤l.length∧d=H) l.length ⟨l.length,?_,?_,by rw[b8 (aF _)],rfl,aF _,rfl⟩ ?_
 iterate 2 simp only[go_sem]
 rintro m F d ⟨_,e,f,a,rfl,r,rfl⟩;rw[EF];cases m with
 |zero=>
  simp(disch:=omega)only[go_sem,w7,e,f,df,vY];refine⟨?_,trivial⟩;rw[←a];rfl
 |succ i=>
  have hi:(((i+1:Nat):Int)-1).toNat=i:=aa;have q:i<(l++g).length:=by simp;omega
  have n:(l++g).getD i 0=l.getD i 0:=by
   simp only[cy];rw[p8 aa]
  have o:l.take (i+1)=l.take i++[l.getD i 0]:=by
   rw[kU aa,cy,cx aa];rfl
  rw[o]at a;by_cases j:l.getD i 0=0
  ·simp(disch:=omega)only[go_sem,EE,e,f,dt,aI,bW,hi,h,dY,n];refine⟨i,aa,i,?_,?_,?_,rfl,aa,rfl⟩
   ·simp only[go_sem,e]
   ·simp only[go_sem];congr 1;omega
   ·rw[j,W.yh]at a;exact a
  ·simp(disch:=omega)only[go_sem,w7,e,f,dt,df,aI,bW,hi,h,dY,n,vY];rw[W.yf _ _ j]at a;rw[←a];simp;omega
theorem B6(x y:Nat)(j:x<18446744073709551616)(k:y<18446744073709551616):aS 356 [ay (x:Int),ay (y:Int)] (.aA [ay ((x*y/18446744073709551616:Nat):Int),ay ((x*y%18446744073709551616:Nat):Int)]):=by
 refine cM (.cons (.int _ _) (.cons (.int _ _) .nil)) (.aA (.cons (.int _ _) (.cons (.int _ _) .nil))) (aT alr ?_);obtain⟨a,b,c,d,f,g,h,i,A,B,C,bq,e⟩:=ana j k;have q:aB .u64 (((x%4294967296:Nat):Int)*((y%4294967296:Nat):Int))=(a:Int):=by rw[←fY,f];exact bV _ aa
 have r:aB .u64 (((x/4294967296:Nat):Int)*((y%4294967296:Nat):Int))=(b:Int):=by rw[←fY,g];exact bV _ aa
 have dj:aB .u64 (((x%4294967296:Nat):Int)*((y/4294967296:Nat):Int))=(c:Int):=by rw[←fY,h];exact bV _ aa
 have s:aB .u64 (((x/4294967296:Nat):Int)*((y/4294967296:Nat):Int))=(d:Int):=by rw[←fY,i];exact bV _ aa
 obtain⟨t,w⟩:∃t,t=b+a/4294967296:=⟨_,rfl⟩;have l:aB .u64 ((b:Int)+((a/4294967296:Nat):Int))=(t:Int):=by rw[bV _ aa];omega
 obtain⟨u,z⟩:∃u,u=t%4294967296+c:=⟨_,rfl⟩;have m:aB .u64 (((t%4294967296:Nat):Int)+(c:Int))=(u:Int):=by rw[bV _ aa];omega
 have n:aB .u64 ((d:Int)+((t/4294967296:Nat):Int))=((d+t/4294967296:Nat):Int):=by rw[bV _ aa];omega
 have hh:x*y/18446744073709551616=d+t/4294967296+u/4294967296:=by rw[e];omega
 have v:x*y<340282366920938463463374607431768211456:=by rw[e];omega
 have o:aB .u64 (((d+t/4294967296:Nat):Int)+((u/4294967296:Nat):Int))=((x*y/18446744073709551616:Nat):Int):=by rw[hh,bV _ aa];omega
 have p:aB .u64 ((x:Int)*(y:Int))=((x*y%18446744073709551616:Nat):Int):=by rw[hL,←fY,Int.natCast_emod];rfl
 simp(disch:=omega)only[go_sem,d356,ac7,adg,adf,ade,adb,ada,ac_,ac9,ac8,ac6,ac5,AE,qM,q,r,dj,s,l,m,n,o,p]
structure eI (H H1:af) (b:Nat) (cs:List V):Prop where
 next:H1.next=H.next
 get:∀y,H1.get y=if y=b then .cells cs 0 else H.get y
variable{c:af}{I:af}{b:List V}
theorem eI.at(h:eI c I a b):I.get a=.cells b 0:=by rw[h.get,ao rfl]
theorem eI.refl(h:c.get a=.cells b 0):eI c c a b:=⟨rfl,fun y=>by
 split
 ·rename_i e;rw[e,h]
 ·rfl⟩
theorem eI.set{cs:List V}(h:eI c I a cs)(b:List V):eI c (I.set a (.cells b 0)) a b:=⟨h.next,fun y=>by
 rw[af.aK];by_cases e:y=a
 ·rw[ao e.symm,ao e]
 ·rw[aj (fun h=>e h.symm),aj e,h.get,aj e]⟩
theorem eI.trans{a:af}{b:Nat}{g d:List V}(h:eI c I b g)(f:eI I a b d):eI c a b d:=⟨f.next.trans h.next,fun y=>by
 rw[f.get];by_cases e:y=b
 ·rw[ao e,ao e]
 ·rw[aj e,aj e,h.get,aj e]⟩
theorem ku(l:List Nat)(i v:Nat):(aM l).set i (ay (v:Int))=aM (l.set i v):=by simp[aM,List.map_set]
theorem yq(l m:List Nat):aM (l++m)=aM l++aM m:=by simp[aM]
theorem kQ{l:List Nat}{i:Nat}(h:i<l.length):W.val (l.take (i+1))=W.val (l.take i)+18446744073709551616^i*l.getD i 0:=by
 rw[kU h,W.fM,g_ (hO h),cy,cx h];simp[W.val]
theorem CD(ds a:List Nat)(e v:Nat):(ds++e::a).set ds.length v=(ds++[v])++a:=aE
theorem rz{l:List Nat}{i:Nat}(h:i<l.length):l.drop i=l.getD i 0::l.drop (i+1):=by
 rw[lz h,cy,cx h];rfl
theorem y9(ds a:List Nat)(e:Nat):(ds++e::a).getD ds.length 0=e:=aE
theorem D6{P d x y z:Nat}{V X:Nat}(c:V+P*a=X+h)(b:x+y+a=d+18446744073709551616*z):V+P*d+P*18446744073709551616*z=X+P*x+(h+P*y):=by
 have e:=congrArg (P* ·) b;simp only[cr,←cI]at e;omega
theorem S2(a d:List Nat)(n:Nat)(B:W.az a)(M:W.az d)(hl:d.length≤a.length)(R:a.length<1000000)(K:a.length=n)(b:Nat)(c:Cap)(H:af)(E:H.get b=.cells (aM a) 0):
 c5 302 [.slice b 0 n c,bl d] H fun _ o=>∃q k,q.length=a.length∧W.az q∧W.val q+18446744073709551616^a.length*k=W.val a+W.val d∧eI H o b (aM q):=by
 subst K;refine aT ald ?_;simp(disch:=omega)only[go_sem,d302,abx]
 refine bK (fun k F o=>∃(ds:List Nat) (e:Nat),k=d.length-ds.length∧ds.length≤d.length∧rd 0 F=.slice b 0 a.length c∧rd 1 F=bl d∧rd 4 F=ay (e:Int)∧rd 8 F=bl d∧rd 9 F=ah (d.length:Int)∧rd 10 F=ah (ds.length:Int)∧e≤1∧W.az ds∧
  W.val ds+18446744073709551616^ds.length*e=W.val (a.take ds.length)+W.val (d.take ds.length)∧eI H o b (aM (ds++a.drop ds.length))) d.length ⟨[],0,rfl,b4 _,?_,?_,?_,?_,?_,?_,aa,W.az.nil,rfl,eI.refl E⟩ ?_
 iterate 2 simp only[go_sem]
 ·simp only[go_sem];rfl
 iterate 2 simp only[go_sem]
 ·simp only[go_sem];rfl
 rintro k F o ⟨ds,e,rfl,w,g,r,h,u,p,t,v,m,j,f⟩;rw[abq];by_cases hi:ds.length<d.length
 ·have L:=B.getD ds.length;have Q:=M.getD ds.length;have x:=rz (l:=a) (i:=ds.length) aa;rw[x]at f;have y:=f.at;have I:ds.length<(aM (ds++a.getD ds.length 0::a.drop (ds.length+1))).length:=by rw[eS];simp
  have J:ds.length<(ds++a.getD ds.length 0::a.drop (ds.length+1)).length:=aE;have z:=y9 ds (a.drop (ds.length+1)) (a.getD ds.length 0);simp(disch:=omega)only[go_sem,L3,abp,abo,g,h,u,p,t,dt,gU,bW,dY,y,z,u0,fo,ku,CD,aI];obtain⟨s,A⟩:∃s,s=a.getD ds.length 0+d.getD ds.length 0+e:=⟨_,rfl⟩;rw[←A];refine⟨d.length-(ds.length+1),aa,ds++[s%18446744073709551616],s/18446744073709551616,aE,by simp;omega,?_,?_,?_,?_,?_,?_,aa,m.app (.mk aa W.az.nil),?_,?_⟩
  iterate 5 simp only[go_sem,g,r,u,p]
  ·simp only[go_sem,aV,gP];rfl
  ·rw[W.fM];simp only[aV,gP,cS,W.val,fy,cG];rw[kQ aa,kQ aa];exact D6 j aa
  ·have:=f.set (aM ((ds++[s%18446744073709551616])++a.drop (ds.length+1)));simpa using this
 ·have i:ds.length=d.length:=aa;simp(disch:=omega)only[go_sem,L3,abw,abv,r,p,t,df]
  refine bK (fun k F o=>∃(ds:List Nat) (e:Nat),k=a.length-ds.length∧d.length≤ds.length∧ds.length≤a.length∧rd 0 F=.slice b 0 a.length c∧rd 4 F=ay (e:Int)∧rd 7 F=ah (ds.length:Int)∧e≤1∧W.az ds∧
   W.val ds+18446744073709551616^ds.length*e=W.val (a.take ds.length)+W.val d∧eI H o b (aM (ds++a.drop ds.length))) (a.length-ds.length) ⟨ds,e,rfl,aa,aa,?_,?_,?_,v,m,by rw[j,i,b8 (l:=d) (aF _)],f⟩ ?_
  iterate 3 simp only[go_sem,g,h,i]
  clear j f m v i w g r h u p t hi;rintro k N O ⟨ds,e,rfl,P,w,g,h,C,v,m,j,f⟩;rw[abu];by_cases G:e=0
  ·subst G;simp(disch:=omega)only[go_sem,h,jU,decide_true];refine⟨ds++a.drop ds.length,0,by simp;omega,m.app (B.drop _),?_,f⟩;rw[W.fM,W.pW a ds.length w];omega
  ·by_cases hi:ds.length<a.length
   ·have L:=B.getD ds.length;have x:=rz (l:=a) (i:=ds.length) aa;rw[x]at f;have y:=f.at;have I:ds.length<(aM (ds++a.getD ds.length 0::a.drop (ds.length+1))).length:=by rw[eS];simp
    have J:ds.length<(ds++a.getD ds.length 0::a.drop (ds.length+1)).length:=aE;have z:=y9 ds (a.drop (ds.length+1)) (a.getD ds.length 0);have D:=u0 (a:=a.getD ds.length 0) (b:=0) (c:=e) aa;simp only[jU]at D;simp(disch:=omega)only[go_sem,abt,abr,g,h,C,dt,df,bW,dY,y,z,D,fo,ku,CD,aI];obtain⟨s,A⟩:∃s,s=a.getD ds.length 0+e:=⟨_,rfl⟩;rw[←A];refine⟨a.length-(ds.length+1),aa,ds++[s%18446744073709551616],s/18446744073709551616,aE,by simp;omega,by simp;omega,?_,?_,?_,aa,m.app (.mk aa W.az.nil),?_,?_⟩
    iterate 2 simp only[go_sem,g]
    ·simp only[go_sem,aV,gP];rfl
    ·rw[W.fM];simp only[aV,gP,cS,W.val,fy,cG];rw[kQ aa];have:=D6 (x:=a.getD ds.length 0) (y:=0) (z:=s/18446744073709551616) (d:=s%18446744073709551616) j aa;rw[fy,cG]at this;exact this
    ·have:=f.set (aM ((ds++[s%18446744073709551616])++a.drop (ds.length+1)));simpa using this
   ·have i:ds.length=a.length:=aa;simp(disch:=omega)only[go_sem,g,h,C,df];rw[i,jF (aF _),fN]at f;rw[i,b8 (aF _)]at j;exact⟨ds,e,i,m,j,f⟩
theorem F3(q:Rat):aS 277 [c7 q] (.bool (decide (q.num=0))):=by
 refine cM (.cons (k5 _) .nil) (.bool _) (aT ak6 ?_);simp only[go_sem,d277,aa2,c7,b7];refine use (BK q.num) ?_;simp only[go_sem]
theorem Qj(a b:List Nat)(hl:a.length=b.length)(K:a.length≤1000000000)(H:a.sum≤1000000000000)(I:b.sum≤1000000000000):aS 276 [bI a,bI b] (ah (ord a b)):=by
 refine cM (.cons (ni _) (.cons (ni _) .nil)) (.int _ _) (aT ak5 ?_);simp only[go_sem,d276,aaW,aaV];refine bK (fun k c q=>∃i:Nat,rd 0 c=bI a∧rd 1 c=bI b∧rd 10 c=bI a∧rd 11 c=ah (a.length:Int)∧rd 5 c=ah (((a.take i).sum:Nat):Int)∧rd 6 c=ah (((b.take i).sum:Nat):Int)∧rd 12 c=ah (i:Int)∧k=a.length-i∧i≤a.length) a.length ⟨0,?_,?_,?_,?_,?_,?_,?_,rfl,b4 _⟩ ?_
 iterate 4 simp only[go_sem]
 ·simp only[go_sem,q5];rfl
 ·simp only[go_sem,q5];rfl
 ·simp only[go_sem];rfl
 rintro k c q ⟨i,m,n,t,e,f,g,o,rfl,hi⟩;rw[aaX];by_cases A:i<a.length
 ·have F:=z6 a (i+1);have G:=z6 b (i+1);have d:=z7 A;have z:=z7 (l:=b) (i:=i) aa;simp(disch:=omega)only[go_sem,EJ,aaU,aaT,n,t,e,f,g,o,dt,nV,bH,n3,aI];refine⟨a.length-(i+1),aa,i+1,?_,?_,?_,?_,?_,?_,?_,rfl,aa⟩
  iterate 4 simp only[go_sem,m,n,t,e]
  ·simp only[go_sem];rw[d];rfl
  ·simp only[go_sem];rw[z];rfl
  ·simp only[go_sem];rfl
 ·have B:i=a.length:=aa;subst B;rw[b8 (aF _)]at f;rw[b8 aa]at g;by_cases v:a.sum=b.sum
  ·simp(disch:=omega)only[go_sem,EJ,LV,aa1,m,f,g,e,o,dt,df,aI];have p:ord a b=rl a.reverse b.reverse:=ao v;refine bK (fun k c q=>rd 0 c=bI a∧rd 1 c=bI b∧rd 9 c=ah ((k:Int)-1)∧k≤a.length∧rl (a.take k).reverse (b.take k).reverse=ord a b) a.length ⟨?_,?_,?_,aF _,?_⟩ ?_
   iterate 3 simp only[go_sem,m,n]
   ·rw[b8 (aF _),b8 aa,p]
   rintro k y E ⟨l,d,r,J,h⟩;rw[aaZ];cases k with
   |zero=>
    simp(disch:=omega)only[go_sem,aa0,r,dt];rw[←h];rfl
   |succ j=>
    have s:rd 9 y=ah (j:Int):=by rw[r];congr 1;omega
    have C:j<a.length:=aa;have D:j<b.length:=aa;rw[Cp C,Cp D]at h;by_cases w:a.getD j 0=b.getD j 0
    ·simp(disch:=omega)only[go_sem,LU,aaY,l,d,s,dt,df,nV,bH,n3,aI];refine⟨j,mq j,?_,?_,?_,aa,?_⟩
     iterate 3 simp only[go_sem,l,d]
     ·rw[←h];simp only[rl];rw[ao w]
    ·simp(disch:=omega)only[go_sem,LU,l,d,s,df,nV,bH,n3];refine use (AP _ _) ?_;simp only[go_sem];rw[←h];simp only[rl];rw[aj w];unfold fm;by_cases x:b.getD j 0<a.getD j 0
     ·rw[ao x,ao aa]
     ·rw[aj x,aj aa,ao aa]
  ·have p:ord a b=if a.sum<b.sum then-1 else 1:=aj v
   simp(disch:=omega)only[go_sem,EJ,LV,f,g,e,o,df];refine use (AP _ _) ?_;simp only[go_sem];rw[p];unfold fm;by_cases u:a.sum<b.sum
   ·rw[ao u,ao aa]
   ·rw[aj u,aj aa,ao aa]
theorem afU(a:List Nat)(hl:a.length≤6)(o:a.sum≤24):aS 290 [bI a] (ah (a.sum:Int)):=by
 refine cM (.cons (ni _) .nil) (.int _ _) (aT ak8 ?_);have n:¬(6:Int)<((a.length:Nat):Int):=aa;simp(disch:=assumption)only[go_sem,d290,aa_,aa9,aa8,df];refine bK (fun k b g=>∃i:Nat,rd 9 b=bI a∧rd 10 b=ah (a.length:Int)∧rd 3 b=ah (((a.take i).sum:Nat):Int)∧rd 11 b=ah (i:Int)∧k=a.length-i∧i≤a.length) a.length ⟨0,?_,?_,?_,?_,rfl,b4 _⟩ ?_
 iterate 2 simp only[go_sem]
 ·simp only[go_sem,q5];rfl
 ·simp only[go_sem];rfl
 rintro k b g ⟨i,f,c,d,e,rfl,hi⟩;rw[aa6];by_cases j:i<a.length
 ·have m:=z6 a (i+1);have h:=z7 j;simp(disch:=omega)only[go_sem,LW,aa5,aa4,f,c,d,e,dt,df,nV,bH,n3,aI];refine⟨a.length-(i+1),aa,i+1,?_,?_,?_,?_,rfl,aa⟩
  iterate 2 simp only[go_sem,f,c]
  ·simp only[go_sem];rw[h];rfl
  ·simp only[go_sem];rfl
 ·have l:i=a.length:=aa;rw[l,b8 (aF _)]at d;simp(disch:=omega)only[go_sem,LW,aa7,c,e,d,df]
theorem Gr(a:List Nat)(hl:a.length≤6)(b:a.sum≤24):aS 224 [bI a] bE:=by
 refine cM (.cons (ni _) .nil) (.bool _) (aT akG ?_);simp only[go_sem,d224,Zt];refine use (afU a hl b) ?_;simp(disch:=omega)only[go_sem,df]
def dg(e:List Nat):List V:=ct e++aW (6-e.length) (ah 0)
def bM(t:ax):List V:=dg t.2++b7 t.1
def nT(t:ax):V:=.agg (bM t)
theorem zF{e:List Nat}(h:e.length≤6):(dg e).length=6:=by simp[dg,j5];omega
theorem lU{t:ax}(h:t.2.length≤6):(bM t).length=10:=by
 unfold bM;rw[aV,zF h];rfl
theorem aha(e:List Nat):bX (dg e):=lF (FD e) (bX.iff.2 fun v h=>by rw[List.eq_of_mem_replicate h];exact .int _ _)
theorem NN(t:ax):bX (bM t):=lF (aha _) (FH _)
theorem FC(t:ax):bA (nT t):=.agg (NN t)
theorem rj:cK b=true↔∀v∈b,v.one=true:=by
 induction b with
 |nil=>exact⟨fun _ _ h=>(by cases h),fun _=>rfl⟩
 |cons a b e=>
  show and a.one (cK b)=true↔_;rw[cC,e];constructor
  ·rintro⟨c,d⟩ v hv;rcases jr.1 hv with rfl|hv
   ·exact c
   ·exact d v hv
  ·exact fun h=>⟨h a aE,fun v hv=>h v (by simp[hv])⟩
theorem yI(e:List Nat):cK (ct e)=true:=rj.2 fun v h=>by
 simp only[ct,kT]at h;obtain⟨d,_,rfl⟩:=h;rfl
theorem sr(t:ax):cK (bM t)=true:=rj.2 fun v h=>by
 unfold bM dg at h;rcases hN.1 h with h|h
 ·rcases hN.1 h with h|h
  ·exact rj.1 (yI _) v h
  ·rw[List.eq_of_mem_replicate h];rfl
 ·exact rj.1 (show cK (b7 t.1)=true from rfl) v h
theorem vG{l:List V}(h:b.length=l.length):cz b l 0=some b:=by
 rw[k8,ao aa];simp[h]
theorem Gk{xs l:List V}(h:xs.length≤l.length):cz xs l 0=some (xs++l.drop xs.length):=by
 rw[k8,ao aa];simp
variable{m:Fr}{i:Option Nat}{e:Fr→af→Prop}
theorem agz{b:Nat}{cs:List V}(h:c.get b=.cells cs 0)(p:6≤cs.length)(j:d.length≤6)(l:e (put m i (ah (d.length:Int))) (c.set b (.cells (ct d++cs.drop d.length) 0))):
 gk i e m (ow 1 [.slice b 0 6 (.known 6),bI d] c):=by
 have n:ep d.length 6=d.length:=ld j;have g:ow 1 [.slice b 0 6 (.known 6),bI d] c=some (ah (d.length:Int),c.set b (.cells (ct d++cs.drop d.length) 0)):=by
  show an (some d.length) (fun a=>an (dX c 1 (ep a 6) (bI d)) fun o=>an (c.e3 b 0 o) fun c=>some (V.int .i64 (.ofNat (ep a 6)),c))=_;show an (dX c 1 (ep d.length 6) (bI d)) _=_;rw[n];have k:dX c 1 d.length (bI d)=some (ct d):=iU (by rw[j5];show d.length=d.length*1;omega);rw[k];show an (c.e3 b 0 (ct d)) _=_;unfold af.e3;rw[h];show an (aQ (cK (ct d)) (an (cz (ct d) cs 0) fun f=>some (c.set b (.cells f 0)))) _=_;rw[yI,Gk (by rw[j5];omega),j5];rfl
 rw[g];exact l
theorem agZ(e:List Nat)(q:∀x∈e,x≤1048576)(hl:e.length≤6)(F:Fr)(H:af)(R:X→Fr→af→Prop)(m:rd 32 F=bI e)(n:rd 33 F=ah (e.length:Int))(o:rd 34 F=ah 0)
 (p:∀d,(∀t,t<9→rd t d=rd t F)→R (.exit 0) d H):bw (.loop (pc 305 3)) R F H:=by
 refine bK (fun k a f=>∃i:Nat,k=e.length-i∧i≤e.length∧(∀t,t<9→rd t a=rd t F)∧rd 32 a=bI e∧rd 33 a=ah (e.length:Int)∧rd 34 a=ah (i:Int)∧f=H) e.length ⟨0,rfl,b4 _,fun _ _=>rfl,m,n,o,rfl⟩ ?_;rintro k a f ⟨i,rfl,hi,j,g,b,h,rfl⟩;rw[abK];by_cases l:i<e.length
 ·have r:e.getD i 0≤1048576:=by
   refine q _ ?_;rw[cy,cx l];exact wB l
  simp(disch:=omega)only[go_sem,L5,abI,abH,g,b,h,dt,df,nV,bH,n3,aI];refine⟨e.length-(i+1),aa,i+1,rfl,aa,fun t c=>?_,?_,?_,?_,rfl⟩
  ·simp(disch:=omega)only[bU];exact j t c
  iterate 2 simp only[go_sem,g,b]
  ·simp only[go_sem];rfl
 ·simp(disch:=omega)only[go_sem,L5,b,h,df];refine p _ fun t c=>?_
  simp(disch:=omega)only[bU];exact j t c
theorem Pf(h:u∈d):u≤d.sum:=by
 induction d with
 |nil=>cases h
 |cons a d b=>
  rw[List.sum_cons];rcases jr.1 h with rfl|h
  ·omega
  ·have:=b h;omega
theorem oG(n:Nat):rep [V.int .u64 0] n=aM (aW n 0):=by
 induction n with
 |zero=>rfl
 |succ n a=>
  show cX [V.int .u64 0] (rep [V.int .u64 0] n)=_;rw[iH,a];simp[aM,qa]
theorem qp{b:Cap}(f:c.get a=.cells (aM d) 0)(g:I.get a=.none)(i:d.length=h):bO c I (.slice a 0 h b) (bl d):=by
 subst i;cases d with
 |nil=>exact .fj a 0 b
 |cons e d=>
  refine .row (m:=(e::d).length) (cs:=aM (e::d)) ?_ (m7 _) g (cD.refl _);rw[fI f,dA,eZ,ao (by rw[eS];exact aF _),b8 (by rw[eS];exact aF _)]
theorem qR(l:List Nat)(hl:l.length<4294967296):aS 252 [bl l] (bl (W.trim l)):=by
 refine cM (.cons (dW _) .nil) (dW _) (aT F7 ?_);simp only[go_sem,d252,EH,EG];refine bK (fun k F g=>∃m:Nat,rd 0 F=bl l∧rd 3 F=ah (m:Int)∧W.trim (l.take m)=W.trim l∧k=m∧m≤l.length) l.length ⟨l.length,?_,?_,by rw[b8 (aF _)],rfl,aF _⟩ ?_
 iterate 2 simp only[go_sem]
 rintro m F g ⟨_,a,c,b,rfl,h⟩;rw[EF];have e:slice3 (j_ 1) false true false [bl l,ah (m:Int)]=some (.val (bl (l.take m))):=by
  rw[bl,CE (by rw[eS,ef]) aa];simp only[bl,aM,dP,ef,List.map_take,bH];rw[(aa:min m l.length=m)]
 cases m with
 |zero=>
  simp(disch:=omega)only[go_sem,w7,a,c,df,e];rw[←b];rfl
 |succ i=>
  have hi:(((i+1:Nat):Int)-1).toNat=i:=aa;have f:l.take (i+1)=l.take i++[l.getD i 0]:=by
   rw[kU aa,cy,cx aa];rfl
  by_cases d:l.getD i 0=0
  ·simp(disch:=omega)only[go_sem,EE,a,c,dt,aI,gU,hi,dY];refine⟨i,aa,i,?_,?_,?_,rfl,aa⟩
   ·simp only[go_sem,a]
   ·simp only[go_sem];congr 1;omega
   ·rw[f,d,W.yh]at b;exact b
  ·simp(disch:=omega)only[go_sem,w7,a,c,dt,df,aI,gU,hi,dY,e];rw[←b,f,W.yf _ _ d]
theorem Bi{b:Cap}{cs:List V}(n:c.get a=.cells cs 0)(r:d.length≤h)(t:h≤cs.length)(p:e (put m i (ah (d.length:Int))) (c.set a (.cells (aM d++cs.drop d.length) 0))):
 gk i e m (ow 1 [.slice a 0 h b,bl d] c):=by
 have q:ep d.length h=d.length:=ld r;have l:cK (aM d)=true:=rj.2 fun v f=>by
  simp only[aM,kT]at f;obtain⟨i,_,rfl⟩:=f;rfl
 have k:ow 1 [.slice a 0 h b,bl d] c=some (ah (d.length:Int),c.set a (.cells (aM d++cs.drop d.length) 0)):=by
  show an (some d.length) (fun g=>an (dX c 1 (ep g h) (bl d)) fun s=>an (c.e3 a 0 s) fun c=>some (V.int .i64 (.ofNat (ep g h)),c))=_;show an (dX c 1 (ep d.length h) (bl d)) _=_;rw[q];have o:dX c 1 d.length (bl d)=some (aM d):=iU (by rw[eS];show d.length=d.length*1;omega);rw[o];show an (c.e3 a 0 (aM d)) _=_;unfold af.e3;rw[n];show an (aQ (cK (aM d)) (an (cz (aM d) cs 0) fun j=>some (c.set a (.cells j 0)))) _=_;rw[l,Gk (by rw[eS];omega),eS];rfl
 rw[k];exact p
theorem S4(m n:Nat)(t:(aq m).length<100000)(u:(aq n).length<100000):aS 239 [bl (aq m),bl (aq n)] (bl (aq (m+n))):=by
 refine fK (.cons (dW _) (.cons (dW _) .nil)) (aT akS ?_)
 have l:∀(a b:Nat) (F:Fr),(aq b).length≤(aq a).length→(aq a).length<100000→a+b=m+n→rd 0 F=bl (aq a)→rd 1 F=bl (aq b)→
  bw (pc 239 4) (fu [.tmp 4] fun x d=>∃v,bO d (af.zero d.next) x v∧bA v∧v=bl (aq (m+n))) F (af.zero 5):=by
  intro a b F hl E i f e;by_cases C:(aq b).length=0
  ·have o:b=0:=oN fun h=>by have:=(ji b).2 h;omega
   simp(disch:=omega)only[go_sem,LI,f,e,dt];exact iG (by rw[←i,o];rfl) (dW _)
  ·simp(disch:=omega)only[go_sem,LI,Z0,ZZ,f,e,df,aI,iI,oG];have q:(aM (aW ((aq a).length+1) 0)).drop (aq a).length=aM [0]:=by
    rw[aM,←List.map_drop,List.drop_replicate,Nat.add_sub_cancel_left];rfl
   refine Bi (cs:=aM (aW ((aq a).length+1) 0)) (by simp only[go_sem]) aa (by rw[eS];simp) ?_;rw[q,←yq];simp only[go_sem,ZY,e];have j:(aq a++[0]).length=(aq a).length+1:=aE;have s:W.az (aq a++[0]):=(gz a).app (.mk ag W.az.nil);refine(S2 (aq a++[0]) (aq b) _ s (gz b) aa aa j 5 _ _ ?_).mono ?_
   ·simp only[go_sem]
   rintro _ d ⟨y,k,D,w,c,g⟩;have r:W.val (aq a++[0])=a:=by rw[W.fM,gu];simp[W.val]
   rw[r,gu]at c;have p:k=0:=by
    have z:=nS a;have A:=eF (nS b) (gw (n:=18446744073709551616) ag hl);rw[j,cS]at c;have B:a+b<18446744073709551616^(aq a).length*18446744073709551616:=aa;cases k with
    |zero=>rfl
    |succ k=>rw[Nat.mul_succ]at c;omega
   rw[p,fy,cG,i]at c;simp only[go_sem,ZX];refine jo (qR y aa) g.at ⟨0,_,_,ec.2 rfl⟩ (.cons (qp g.at (by rw[af.aK,ao rfl]) aa) .nil) ?_;simp only[go_sem];exact iG (by rw[me w,c]) (dW _)
 by_cases h:(aq m).length<(aq n).length
 ·simp(disch:=omega)only[go_sem,d239,LJ,dt];refine l n m _ aa u aa ?_ ?_
  iterate 2 simp only[go_sem]
 ·simp(disch:=omega)only[go_sem,d239,LJ,df];refine l m n _ aa t rfl ?_ ?_
  iterate 2 simp only[go_sem]
structure cE (H:af) (b g:Nat) (cs:List V):Prop where
 row:H.get b=.cells cs g
 bD:∃f,H.get g=.bD b f∧f≤b
 ne:g≠0
theorem cE.fV(d:cE c a h b):c.fV a h=true:=by
 obtain⟨f,e,g⟩:=d.bD;exact xD e g
theorem cE.JJ(d:cE c a h b):a≠h:=by
 obtain⟨f,g,i⟩:=d.bD;intro e;have:=d.row;rw[e,g]at this;cases this
structure mw (H H1:af) (b g:Nat) (cs:List V):Prop where
 mM:cE H1 b g cs
 next:H1.next=H.next
 get:∀y,y≠b→y≠g→H1.get y=H.get y
theorem mw.refl(d:cE c a h b):mw c c a h b:=⟨d,rfl,fun _ _ _=>rfl⟩
def af.wr(H:af)(b g:Nat)(a:List V):af:=(H.set b (.cells a g)).set g (.bD b b)
theorem mw.wr(d:mw c I a h b)(f:List V):mw c (af.wr I a h f) a h f:=by
 have j:=d.mM.JJ;refine⟨⟨?_,⟨a,?_,aF _⟩,d.mM.ne⟩,d.next,fun y g i=>?_⟩
 ·unfold af.wr;rw[af.aK,aj (fun e=>j e.symm),af.aK,ao rfl]
 ·unfold af.wr;rw[af.aK,ao rfl]
 ·unfold af.wr;rw[af.aK,aj (fun e=>i e.symm),af.aK,aj (fun e=>g e.symm)];exact d.get y g i
theorem sO(d:cE c h u b):iz false a [.ptr h L] c=cO b L:=by
 rw[Gh,d.row];exact Gg d.fV
theorem HM{o:Nat}{v:V}(e:cE c a h b)(n:o<b.length)(g:aZ v=true∧cellsOf v=[v]∧V.one v=true):oI 1 [.ptr a o,v] c=some (V.undef,af.wr c a h (b.set o v)):=by
 obtain⟨f,k,_⟩:=e.bD;obtain⟨d,m⟩:∃d,h=d+1:=⟨h-1,by have:=e.ne;omega⟩;have l:=e.row;show aQ (and (aZ v) (bn (cn (cellsOf v)) 1)) (an (c.e3 a o (cellsOf v)) fun c=>some (V.undef,c))=_;rw[g.1,g.2.1];unfold af.e3;rw[l];show aQ true (an (aQ (and v.one true) (an (cz [v] b o) fun j=>Nat.rec (motive:=fun _=>Option af) (some (c.set a (.cells j 0))) (fun _ _=>cR.casesOn (motive:=fun _=>Option af) (c.get h) aJ (fun _ _=>aJ) (fun i _=>aQ (bn i a) (some ((c.set a (.cells j h)).set h (.bD a a)))) (fun _=>aJ)) h)) fun c=>some (V.undef,c))=_;rw[fo n,g.2.2];subst m;show aQ true (an (aQ true (cR.casesOn (motive:=fun _=>Option af) (c.get (d+1)) aJ (fun _ _=>aJ) (fun i _=>aQ (bn i a) (some ((c.set a (.cells (b.set o v) (d+1))).set (d+1) (.bD a a)))) (fun _=>aJ))) fun c=>some (V.undef,c))=_;rw[k];show aQ true (an (aQ true (aQ (bn a a) (some ((c.set a (.cells (b.set o v) (d+1))).set (d+1) (.bD a a))))) fun c=>some (V.undef,c))=_;rw[tC];rfl
theorem x_{n:Nat}(d:cE c a h b)(e:u<b.length):oI 1 [.ptr a u,ay (n:Int)] c=some (V.undef,af.wr c a h (b.set u (ay (n:Int)))):=HM d e ⟨rfl,rfl,rfl⟩
theorem wT{P z:Nat}{V X Y:Nat}(c:X+P*h=V+Y)(b:u+18446744073709551616*z=a+L+h):X+P*u+P*18446744073709551616*z=V+P*a+(Y+P*L):=by
 have e:=congrArg (P* ·) b;simp only[cr,←cI]at e;omega
theorem sub_one{y:Nat}(c:a<18446744073709551616)(d:y<18446744073709551616)(b:h≤1):a+18446744073709551616*(if y+h≤a then 0 else 1)=(a+18446744073709551616-y-h)%18446744073709551616+y+h:=by
 split<;>omega
theorem aqT(a d:List Nat)(n:Nat)(N:W.az a)(V:W.az d)(hl:d.length≤a.length)(ls:a.length<1000000)(U:a.length=n)(b g:Nat)(c:Cap)(H:af)(S:cE H b g (aM a)):
 c5 303 [.slice b 0 n c,bl d] H fun _ j=>∃y k,y.length=a.length∧W.az y∧W.val a+18446744073709551616^a.length*k=W.val y+W.val d∧mw H j b g (aM y):=by
 subst U;refine aT ale ?_;simp(disch:=omega)only[go_sem,d303,abG]
 refine bK (fun k F j=>∃(ds:List Nat) (e:Nat),k=d.length-ds.length∧ds.length≤d.length∧rd 0 F=.slice b 0 a.length c∧rd 1 F=bl d∧rd 4 F=ay (e:Int)∧rd 8 F=bl d∧rd 9 F=ah (d.length:Int)∧rd 10 F=ah (ds.length:Int)∧e≤1∧W.az ds∧
  W.val (a.take ds.length)+18446744073709551616^ds.length*e=W.val ds+W.val (d.take ds.length)∧mw H j b g (aM (ds++a.drop ds.length))) d.length ⟨[],0,rfl,b4 _,?_,?_,?_,?_,?_,?_,aa,W.az.nil,rfl,mw.refl S⟩ ?_
 iterate 2 simp only[go_sem]
 ·simp only[go_sem];rfl
 iterate 2 simp only[go_sem]
 ·simp only[go_sem];rfl
 rintro k F j ⟨ds,e,rfl,D,i,A,m,C,x,B,o,t,r,f⟩;rw[abA];by_cases hi:ds.length<d.length
 ·have O:=N.getD ds.length;have X:=V.getD ds.length;have E:=rz (l:=a) (i:=ds.length) aa;rw[E]at f;have w:=f.mM;have J:ds.length<(aM (ds++a.getD ds.length 0::a.drop (ds.length+1))).length:=by rw[eS];simp
  have K:ds.length<(ds++a.getD ds.length 0::a.drop (ds.length+1)).length:=aE;have G:=y9 ds (a.drop (ds.length+1)) (a.getD ds.length 0);have I:iz false 1 [.ptr b ds.length] j=some (ay ((a.getD ds.length 0:Nat):Int)):=by rw[sO w,dY K,G]
  obtain⟨s,q⟩:∃s,s=(a.getD ds.length 0+18446744073709551616-d.getD ds.length 0-e)%18446744073709551616:=⟨_,rfl⟩;obtain⟨z,h⟩:∃z,z=(if d.getD ds.length 0+e≤a.getD ds.length 0 then 0 else 1:Nat):=⟨_,rfl⟩;have v:=sub_one O X o;rw[←q,←h]at v;have u:=CO (a:=a.getD ds.length 0) (b:=d.getD ds.length 0) o;rw[←q,←h]at u;have M:=x_ (n:=s) w J;have P:z≤1:=by rw[h];split<;>omega
  have L:s<18446744073709551616:=aa;clear q h;simp(disch:=omega)only[go_sem,L4,abz,aby,i,m,C,x,B,dt,gU,bW,dY,I,u,M,aI];refine⟨d.length-(ds.length+1),aa,ds++[s],z,aE,by simp;omega,?_,?_,?_,?_,?_,?_,P,t.app (.mk L W.az.nil),?_,?_⟩
  iterate 5 simp only[go_sem,i,A,C,x]
  ·simp only[go_sem,aV,gP];rfl
  ·rw[W.fM];simp only[aV,gP,cS,W.val,fy,cG];rw[kQ aa,kQ aa];exact wT r v
  ·rw[ku,CD];have:=f.wr (aM ((ds++[s])++a.drop (ds.length+1)));simpa using this
 ·have p:ds.length=d.length:=aa;simp(disch:=omega)only[go_sem,L4,abF,abE,A,x,B,df]
  refine bK (fun k F j=>∃(ds:List Nat) (e:Nat),k=a.length-ds.length∧d.length≤ds.length∧ds.length≤a.length∧rd 0 F=.slice b 0 a.length c∧rd 4 F=ay (e:Int)∧rd 7 F=ah (ds.length:Int)∧e≤1∧W.az ds∧
   W.val (a.take ds.length)+18446744073709551616^ds.length*e=W.val ds+W.val d∧mw H j b g (aM (ds++a.drop ds.length))) (a.length-ds.length) ⟨ds,e,rfl,aa,aa,?_,?_,?_,o,t,by rw[r,p,b8 (l:=d) (aF _)],f⟩ ?_
  iterate 3 simp only[go_sem,i,m,p]
  clear r f t o p D i A m C x B hi;rintro k Y R ⟨ds,e,rfl,Z,D,i,m,Q,o,t,r,f⟩;rw[abD];by_cases T:e=0
  ·subst T;simp(disch:=omega)only[go_sem,m,jU,decide_true];refine⟨ds++a.drop ds.length,0,by simp;omega,t.app (N.drop _),?_,f⟩;rw[W.fM,W.pW a ds.length D];omega
  ·by_cases hi:ds.length<a.length
   ·have O:=N.getD ds.length;have E:=rz (l:=a) (i:=ds.length) aa;rw[E]at f;have w:=f.mM;have J:ds.length<(aM (ds++a.getD ds.length 0::a.drop (ds.length+1))).length:=by rw[eS];simp
    have K:ds.length<(ds++a.getD ds.length 0::a.drop (ds.length+1)).length:=aE;have G:=y9 ds (a.drop (ds.length+1)) (a.getD ds.length 0);have I:iz false 1 [.ptr b ds.length] R=some (ay ((a.getD ds.length 0:Nat):Int)):=by rw[sO w,dY K,G]
    obtain⟨s,q⟩:∃s,s=(a.getD ds.length 0+18446744073709551616-0-e)%18446744073709551616:=⟨_,rfl⟩;obtain⟨z,h⟩:∃z,z=(if 0+e≤a.getD ds.length 0 then 0 else 1:Nat):=⟨_,rfl⟩;have v:=sub_one (y:=0) O ag o;rw[←q,←h]at v;have u:=CO (a:=a.getD ds.length 0) (b:=0) o;rw[←q,←h]at u;simp only[jU]at u;have M:=x_ (n:=s) w J;have P:z≤1:=by rw[h];split<;>omega
    have L:s<18446744073709551616:=aa;clear q h;simp(disch:=omega)only[go_sem,abC,abB,i,m,Q,dt,df,bW,I,u,M,aI];refine⟨a.length-(ds.length+1),aa,ds++[s],z,aE,by simp;omega,by simp;omega,?_,?_,?_,P,t.app (.mk L W.az.nil),?_,?_⟩
    iterate 2 simp only[go_sem,i]
    ·simp only[go_sem,aV,gP];rfl
    ·rw[W.fM];simp only[aV,gP,cS,W.val,fy,cG];rw[kQ aa];have:=wT r v;rw[fy,cG]at this;exact this
    ·rw[ku,CD];have:=f.wr (aM ((ds++[s])++a.drop (ds.length+1)));simpa using this
   ·have p:ds.length=a.length:=aa;simp(disch:=omega)only[go_sem,i,m,Q,df];rw[p,jF (aF _),fN]at f;rw[p,b8 (aF _)]at r;exact⟨ds,e,p,t,r,f⟩
theorem cE.cP(b:cE c a h (aM d))(e:u≤d.length):c.cP a 0 u=some (aM (d.take u)):=by
 unfold af.cP;rw[yR b.row b.fV];show cj (ej (aM d) 0) u=_;rw[dA,eZ,ao (by rw[eS];exact e)];simp[aM,List.map_take]
theorem rC{b:Cap}{l:List Nat}(g:cE c a h (aM d))(i:I.get a=.none)(k:l.length=u)(f:d.take u=l):bO c I (.slice a 0 u b) (bl l):=by
 subst k;have j:l.length≤d.length:=by
  have:=congrArg kD f;rw[dP]at this;omega
 cases l with
 |nil=>exact .fj a 0 b
 |cons e l=>
  refine .row (m:=(e::l).length) (cs:=aM (e::l)) ?_ (m7 _) i (cD.refl _);rw[g.cP j,f]
theorem Ry(b:0≤s∧s≤h):slice3 (j_ 1) false true false [.slice a 0 h (.grown 1),.int o s]=some (.val (.slice a 0 s.toNat (.grown 1))):=by
 show aQ true (v5 a 0 h (.grown 1) 1 none (some (.int o s)))=_;unfold v5;rw[sv (l:=0) (h:=s.toNat) rfl (mA o b.1) (b4 _) aa];rfl
theorem CU(l:List Nat)(M:List Nat)(n:Nat)(q:l.length=n)(f:M.take n=l)(hl:M.length<4294967296)(b g:Nat)(H:af)(o:cE H b g (aM M)):
 c5 252 [.slice b 0 n (.grown 1)] H fun v c=>v=.slice b 0 (W.trim l).length (.grown 1)∧c=H:=by
 subst q;have s:l.length≤M.length:=by
  have:=congrArg kD f;rw[dP]at this;omega
 refine aT F7 ?_;simp only[go_sem,d252,EH,EG];refine bK (fun k F c=>∃m:Nat,rd 0 F=.slice b 0 l.length (.grown 1)∧rd 3 F=ah (m:Int)∧W.trim (l.take m)=W.trim l∧k=m∧m≤l.length∧c=H) l.length ⟨l.length,?_,?_,by rw[b8 (aF _)],rfl,aF _,rfl⟩ ?_
 iterate 2 simp only[go_sem]
 rintro m F c ⟨_,d,e,a,rfl,t,rfl⟩;rw[EF];cases m with
 |zero=>
  simp(disch:=omega)only[go_sem,w7,d,e,df,Ry];refine⟨?_,trivial⟩;rw[←a];rfl
 |succ i=>
  have hi:(((i+1:Nat):Int)-1).toNat=i:=aa;have p:M.getD i 0=l.getD i 0:=by
   rw[←f];simp only[cy];rw[List.getElem?_take,ao aa]
  have r:l.take (i+1)=l.take i++[l.getD i 0]:=by
   rw[kU aa,cy,cx aa];rfl
  have j:iz false 1 [.ptr b i] c=some (ay ((l.getD i 0:Nat):Int)):=by rw[sO o,dY aa,p]
  rw[r]at a;by_cases h:l.getD i 0=0
  ·simp(disch:=omega)only[go_sem,EE,d,e,dt,aI,bW,hi,j];refine⟨i,aa,i,?_,?_,?_,rfl,aa,rfl⟩
   ·simp only[go_sem,d]
   ·simp only[go_sem];congr 1;omega
   ·rw[h,W.yh]at a;exact a
  ·simp(disch:=omega)only[go_sem,w7,d,e,dt,df,aI,bW,hi,j,Ry];rw[W.yf _ _ h]at a;rw[←a];simp;omega
theorem Bh{H:af}{bytes n:Nat}{cs:List V}(c:H.get h=.cells [] 0)(o:0<n)(d:cs.length=n*a)(g:n≤1073741824∧bytes≤1024)
 (j:e (put m i (.slice H.next 0 n (.grown a))) ((H.push (.cells cs (H.next+1))).push (.bD H.next H.next))):gk i e m (fA a bytes [.slice h 0 0 (.known 0),.row n cs] H):=by
 have f:dX H a n (.row n cs)=some cs:=iU d;have b:fA a bytes [.slice h 0 0 (.known 0),.row n cs] H=kJ H a n cs:=by
  show an (some n) (fun n=>an (dX H a n (.row _ cs)) fun k=>jJ a bytes (.slice h 0 0 (.known 0)) n k H)=_;show an (dX H a n (.row n cs)) _=_;rw[f];show Bool.casesOn (motive:=fun _=>Option (V×af)) (fh n) (aQ (i_ (0+n) bytes) (Bool.casesOn (motive:=fun _=>Option (V×af)) (bL (0+n) 0) (an (H.cP h 0 (0*a)) fun l=>kJ H a (0+n) (cX l cs)) (an (H.e3 h (0+0*a) cs) fun H=>some (V.slice h 0 (0+n) (.known 0),H)))) (some (V.slice h 0 0 (.known 0),H))=_;rw[qy aa,pe ⟨aa,cH (jX (aa:0+n≤1073741824) g.2) ag⟩,show bL (0+n) 0=false from by
   cases n with
   |zero=>omega
   |succ n=>rw[eJ];rfl,fI c]
  simp only[jg,dA,zl,xK,zC,BS,eJ]
 rw[b];exact j
theorem yS(l:List Nat)(h:0<l.length∧l.length≤1000000)(H:af):c5 248 [bl l] H fun v a=>v=.slice (H.next+1) 0 l.length (.grown 1)∧cE a (H.next+1) (H.next+2) (aM l)∧a.next=H.next+3∧∀y,y<H.next→a.get y=H.get y:=by
 refine aT OV ?_;have b:nh false (.slice 166) [bl l,.ak]=some (.val aC):=by
  obtain⟨n,c⟩:∃n,l.length=n+1:=⟨l.length-1,aa⟩;unfold bl;rw[c];rfl
 simp only[go_sem,d248,LN,aai,b];refine Bh (n:=l.length) (cs:=aM l) (by simp only[go_sem]) h.1 (by rw[eS,ef]) ⟨aa,ag⟩ ?_;simp only[go_sem];refine⟨trivial,⟨?_,⟨H.next+1,?_,aF _⟩,aa⟩,trivial,fun y d=>?_⟩
 ·simp(disch:=omega)only[go_sem,aj]
 ·simp(disch:=omega)only[go_sem]
 ·simp(disch:=omega)only[go_sem,aj]
theorem RS(m n:Nat)(h:n≤m)(s:(aq m).length<100000):aS 240 [bl (aq m),bl (aq n)] (bl (aq (m-n))):=by
 refine fK (.cons (dW _) (.cons (dW _) .nil)) (aT akT ?_);have hl:=lT h;by_cases q:(aq n).length=0
 ·have i:n=0:=oN fun h=>by have:=(ji n).2 h;omega
  simp(disch:=omega)only[go_sem,d240,LK,dt];exact iG (by rw[i];rfl) (dW _)
 ·simp(disch:=omega)only[go_sem,d240,LK,Z3,df];refine(yS (aq m) ⟨aa,aa⟩ _).mono ?_;rintro _ l ⟨rfl,g,r,_⟩;simp only[go_sem,Z2];refine(aqT (aq m) (aq n) _ (gz m) (gz n) hl aa rfl 6 7 _ _ g).mono ?_;rintro _ o ⟨c,k,b,e,a,d⟩;rw[gu,gu]at a;have j:k=0:=by
   have f:=W.gY e;rw[b]at f;cases k with
   |zero=>rfl
   |succ k=>rw[Nat.mul_succ]at a;omega
  rw[j,fy,cG]at a;simp only[go_sem,Z1];refine(CU c c _ b (by rw[←b,b8 (aF _)]) aa 6 7 _ d.mM).mono ?_;rintro _ p ⟨rfl,rfl⟩;simp only[go_sem];exact⟨_,rC d.mM kR rfl (CW c).symm,dW _,by rw[me e];congr 2;omega⟩
theorem qs{es:List Nat}{e:Nat}(h:d.length=a):(d++e::es).getD a 0=e:=by subst h;simp
theorem mc{L es:List Nat}{e v n:Nat}(h:L.length=n):(L++e::es).set n v=L++v::es:=by subst h;simp
theorem Ql{P x z V X Y:Nat}(c:V+P*h=X+Y*L)(b:z+x*L+h=a+18446744073709551616*u):V+P*a+P*18446744073709551616*u=X+P*z+(Y+P*x)*L:=by
 have e:=congrArg (P* ·) b;simp only[cr,←cI]at e;rw[eu];omega
theorem xI{x y:Nat}(a:x<18446744073709551616)(b:y<18446744073709551616):x*y≤340282366920938463426481119284349108225:=
 jX (Nat.le_of_lt_succ a) (Nat.le_of_lt_succ b)
theorem S3(d a e f:List Nat)(w n:Nat)(S:W.az a)(X:W.az f)(G:w<18446744073709551616)(T:f.length=n)(am:a.length=n)(Y:(d++a++e).length<1000000)(o b:Nat)(U:d.length=o)(c:Cap)(H:af)(N:H.get b=.cells (aM (d++a++e)) 0):
 c5 300 [.slice b o n c,bl f,ay (w:Int)] H fun v l=>∃ds k,v=ay ((k:Nat):Int)∧k<18446744073709551616∧ds.length=n∧W.az ds∧W.val ds+18446744073709551616^n*k=W.val a+W.val f*w∧eI H l b (aM (d++ds++e)):=by
 refine aT alc ?_;simp(disch:=omega)only[go_sem,d300,abn,abm]
 refine bK (fun k F l=>∃(ds:List Nat) (g:Nat),k=n-ds.length∧ds.length≤n∧rd 0 F=.slice b o n c∧rd 1 F=bl f∧rd 2 F=ay (w:Int)∧rd 7 F=ay (g:Int)∧rd 14 F=bl f∧rd 15 F=ah (n:Int)∧rd 16 F=ah (ds.length:Int)∧g<18446744073709551616∧W.az ds∧
  W.val ds+18446744073709551616^ds.length*g=W.val (a.take ds.length)+W.val (f.take ds.length)*w∧eI H l b (aM (d++ds++(a.drop ds.length++e)))) n ⟨[],0,rfl,b4 _,?_,?_,?_,?_,?_,?_,?_,aa,W.az.nil,by simp[W.val],?_⟩ ?_
 iterate 3 simp only[go_sem]
 ·simp only[go_sem];rfl
 iterate 2 simp only[go_sem,T]
 ·simp only[go_sem];rfl
 ·have:=eI.refl N;simpa using this
 rintro k F l ⟨ds,g,rfl,hd,A,M,C,D,B,t,u,O,J,y,i⟩;rw[abk];simp only[aV]at Y;by_cases hi:ds.length<n
 ·have I:=X.getD ds.length;have al:=S.getD ds.length;have P:=rz (l:=a) (i:=ds.length) aa;rw[P,eL]at i;have Q:=i.at;have m:(d++ds).length=o+ds.length:=by rw[aV,U]
  have ad:o+ds.length<(aM (d++ds++a.getD ds.length 0::(a.drop (ds.length+1)++e))).length:=by rw[eS,aV,m];simp
  have ae:o+ds.length<(d++ds++a.getD ds.length 0::(a.drop (ds.length+1)++e)).length:=by rw[aV,m];simp
  have R:=qs (es:=a.drop (ds.length+1)++e) (e:=a.getD ds.length 0) m;have V:=xI I G;obtain⟨p,z⟩:∃p,p=f.getD ds.length 0*w:=⟨_,rfl⟩;have E:=B6 _ _ I G;rw[←z]at V E;obtain⟨h,K⟩:∃s,s=p%18446744073709551616+g:=⟨_,rfl⟩;obtain⟨j,L⟩:∃s,s=a.getD ds.length 0+h%18446744073709551616:=⟨_,rfl⟩;have q:=u0 (a:=p%18446744073709551616) (b:=g) (c:=0) aa;rw[cG,←K]at q;have r:=u0 (a:=a.getD ds.length 0) (b:=h%18446744073709551616) (c:=0) aa;rw[cG,←L]at r;rw[jU]at q r;have Z:aB .u64 (((p/18446744073709551616:Nat):Int)+((h/18446744073709551616:Nat):Int))=((p/18446744073709551616+h/18446744073709551616:Nat):Int):=by rw[bV _ aa];omega
  have w2:aB .u64 (((p/18446744073709551616+h/18446744073709551616:Nat):Int)+((j/18446744073709551616:Nat):Int))=((p/18446744073709551616+h/18446744073709551616+j/18446744073709551616:Nat):Int):=by rw[bV _ aa];omega
  simp(disch:=omega)only[go_sem,L2,abj,C,B,t,u,dt,gU,bH,dY];refine use E ?_;simp(disch:=omega)only[go_sem,abi,A,D,u,bW,bH,Q,dY,R,q,r,Z,w2,fo,ku,mc m,aI];refine⟨n-(ds.length+1),aa,ds++[j%18446744073709551616],p/18446744073709551616+h/18446744073709551616+j/18446744073709551616,aE,by simp;omega,?_,?_,?_,?_,?_,?_,?_,aa,J.app (.mk aa W.az.nil),?_,?_⟩
  iterate 6 simp only[go_sem,A,M,C,B,t]
  ·simp only[go_sem,aV,gP];rfl
  ·rw[W.fM];simp only[aV,gP,cS,W.val,fy,cG];rw[kQ aa,kQ aa];exact Ql y (by rw[←z];omega)
  ·have:=i.set (aM (d++(ds++[j%18446744073709551616])++(a.drop (ds.length+1)++e)));simpa using this
 ·have x:ds.length=n:=aa;simp(disch:=omega)only[go_sem,L2,abl,D,t,u,df];rw[x,b8 aa,b8 aa]at y;rw[x,jF aa,eE]at i;exact⟨ds,g,rfl,O,x,J,y,i⟩
theorem uj(n:Nat):W.az (aW n 0):=fun x a=>by
 rw[List.mem_replicate]at a;rw[a.2];decide
theorem td(n:Nat):W.val (aW n 0)=0:=by
 induction n with
 |zero=>rfl
 |succ n a=>rw[qa];simp[W.val,a]
theorem arM{ds x b:List Nat}(l:d.length=a+h)(g:ds.length=h)(j:W.val d=W.val x*W.val (b.take a))(i:a<b.length)(k:b.getD a 0=L)(f:W.val ds+18446744073709551616^h*u=W.val (d.drop a)+W.val x*L):
 W.val (d.take a++ds++[u])=W.val x*W.val (b.take (a+1)):=by
 have c:=W.pW d a aa;rw[W.fM,W.fM,aV,g_ aa,g,kQ i,k,cr,←j,c];simp only[W.val,fy,cG];have e:=congrArg (18446744073709551616^a* ·) f;simp only[cr]at e;rw[gG,cI,mo,e,Nat.mul_left_comm (W.val x),mo]
theorem PG(x a:List Nat)(Q:W.az x)(S:W.az a)(lx:x.length<40)(ly:a.length<40)(l0:0<x.length)(b:Nat)(F:Fr)(H:af)(R:X→Fr→af→Prop)(w:rd 0 F=bl x)(C:rd 6 F=.slice b 0 (x.length+a.length) (.known (x.length+a.length)))(y:rd 53 F=bl a)(z:rd 54 F=ah (a.length:Int))(B:rd 55 F=ah 0)
 (D:H.get b=.cells (aM (aW (x.length+a.length) 0)) 0)
 (E:∀m n L,rd 6 m=.slice b 0 (x.length+a.length) (.known (x.length+a.length))→W.az L→L.length=x.length+a.length→W.val L=W.val x*W.val a→eI H n b (aM L)→R (.exit 1) m n):bw (.loop (pc 237 3)) R F H:=by
 refine bK (fun k c o=>∃(j:Nat) (A:List Nat),k=a.length-j∧j≤a.length∧rd 0 c=bl x∧rd 6 c=.slice b 0 (x.length+a.length) (.known (x.length+a.length))∧rd 53 c=bl a∧rd 54 c=ah (a.length:Int)∧rd 55 c=ah (j:Int)∧W.az A∧A.length=j+x.length∧W.val A=W.val x*W.val (a.take j)∧
  eI H o b (aM (A++aW (a.length-j) 0))) a.length ⟨0,aW x.length 0,rfl,b4 _,w,C,y,z,B,uj _,aE,by rw[td];simp[W.val],?_⟩ ?_
 ·have:=eI.refl D;rw[←List.replicate_append_replicate]at this;exact this
 rintro k c o ⟨j,A,rfl,Y,p,g,q,e,f,l,hl,i,d⟩;rw[ZV];by_cases hi:j<a.length
 ·have T:=S.getD j;obtain⟨r,J⟩:∃r,a.length-j=r+1:=⟨a.length-j-1,aa⟩;rw[J,qa]at d;have K:slice3 (j_ 1) true true false [.slice b 0 (x.length+a.length) (.known (x.length+a.length)),ah (j:Int),ah ((j:Int)+(x.length:Int))]=some (.val (.slice b j x.length (.known (x.length+a.length-j)))):=by
   rw[CF aa];congr 3<;>omega
  have P:aB .i64 ((j:Int)+(x.length:Int))=(j:Int)+(x.length:Int):=aI _ aa;simp(disch:=omega)only[go_sem,LG,ZU,p,g,q,e,f,dt,gU,bH,dY,P,K];have M:A++0::aW r 0=A.take j++A.drop j++0::aW r 0:=by rw[qc]
  have u:=d.at;rw[M]at u;refine(S3 (A.take j) (A.drop j) (0::aW r 0) x (a.getD j 0) _ (l.drop _) Q T rfl (by rw[g5];omega) (by simp;omega) j b (g_ aa) _ _ u).mono ?_;rintro _ V ⟨ds,k,rfl,I,t,U,O,s⟩;have G:=s.at;have h:(A.take j++ds).length=j+x.length:=by rw[aV,g_ aa,t]
  have Z:j+x.length<(aM (A.take j++ds++0::aW r 0)).length:=by rw[eS,aV,h];simp
  have N:((j:Int)+(x.length:Int)).toNat=j+x.length:=aa;simp(disch:=omega)only[go_sem,ZT,f,bW,N,G,fo,ku,mc h,aI];refine⟨r,aa,j+1,A.take j++ds++[k],aa,aa,?_,?_,?_,?_,?_,((l.take _).app U).app (.mk I W.az.nil),by rw[aV,h];simp;omega,arM hl t i hi rfl O,?_⟩
  iterate 4 simp only[go_sem,p,g,q,e]
  ·simp only[go_sem];rfl
  ·have:=(d.trans s).set (aM (A.take j++ds++k::aW r 0));rw[(aa:a.length-(j+1)=r)];simpa using this
 ·have v:j=a.length:=aa;simp(disch:=omega)only[go_sem,LG,e,f,df];rw[v,b8 (aF _)]at i;rw[v,m6,qb,fN]at d;refine E _ _ A ?_ l aa i d;simp only[go_sem,g]
theorem anc(m n:Nat)(J:(aq m).length<40)(K:(aq n).length<40):aS 237 [bl (aq m),bl (aq n)] (bl (aq (m*n))):=by
 refine fK (.cons (dW _) (.cons (dW _) .nil)) (aT akQ ?_)
 have G:∀(a b:Nat) (F:Fr),(aq b).length≤(aq a).length→(aq a).length<40→a*b=m*n→rd 0 F=bl (aq a)→rd 1 F=bl (aq b)→
  bw (pc 237 16) (fu [.tmp 4] fun y i=>∃v,bO i (af.zero i.next) y v∧bA v∧v=bl (aq (m*n))) F (af.zero 5):=by
  intro a b F Q D q f p;have E:(aq b).length<40:=aa;have r:aB .i64 ((((aq a).length:Nat):Int)+1)=(((aq a).length+1:Nat):Int):=by rw[aI _ aa];omega
  have s:aB .i64 ((((aq a).length+1)/2:Nat):Int)=((((aq a).length+1)/2:Nat):Int):=by rw[aI _ aa]
  have M:¬(2:Int)=0:=ag;have C:(((aq a).length:Int)+((aq b).length:Int)).toNat=(aq a).length+(aq b).length:=aa;have t:lO (((aq a).length+1:Nat):Int) 2=((((aq a).length+1)/2:Nat):Int):=rfl;by_cases N:(aq b).length=0
  ·have I:b=0:=oN fun h=>by have:=(ji b).2 h;omega
   simp(disch:=omega)only[go_sem,A1,A0,f,p,dt,r,jK,t,s];rw[←q,I,fy,j3];exact⟨_,.fL,.row 0 .nil,rfl⟩
  ·by_cases k:(aq b).length=1∧(aq b).getD 0 0=1
   ·have B:b=1:=by
     rw[←gu b];obtain⟨k,u⟩:=k
     match O:aq b,k,u with
     |[x],_,u=>have:x=1:=u;simp[W.val,this]
    have w:eo none 1 [bl (aq b),ah 0]=some (.val (.dh (aM (aq b)) 0)):=gU ⟨ag,aa⟩;simp(disch:=omega)only[go_sem,A1,A0,f,p,dt,df,r,jK,t,s,w,dY,k.2]
    first
     |exact iG (by rw[←q,B,ef]) (dW _)
     |(simp only[go_sem,decide_true,f];exact iG (by rw[←q,B,ef]) (dW _))
   ·have A:∀(c:Fr) (d:af) (L:List Nat),rd 6 c=.slice 5 0 ((aq a).length+(aq b).length) (.known ((aq a).length+(aq b).length))→W.az L→L.length=(aq a).length+(aq b).length→W.val L=W.val (aq a)*W.val (aq b)→∀(z:af),eI z d 5 (aM L)→
     bw (.seq (.bP [ex 77 (mv (rd 6)),ex 78 (bY 252 [(rd 77)]),ex 4 (bN (rd 78))]) .ret) (fu [.tmp 4] fun y i=>∃v,bO i (af.zero i.next) y v∧bA v∧v=bl (aq (m*n))) c d:=by
     intro c d L j o hl l z g;simp only[go_sem,j];refine jo (qR L aa) g.at ⟨0,_,_,ec.2 rfl⟩ (.cons (qp g.at (by rw[af.aK,ao rfl]) hl) .nil) ?_;simp only[go_sem];exact iG (by rw[me o,l,gu,gu,q]) (dW _)
    by_cases H:(aq b).length=1
    ·have w:eo none 1 [bl (aq b),ah 0]=some (.val (.dh (aM (aq b)) 0)):=gU ⟨ag,aa⟩;have P:¬(((aq b).getD 0 0:Nat):Int)=1:=fun e=>k ⟨H,aa⟩
     simp(disch:=omega)only[go_sem,A1,A0,f,p,dt,df,r,jK,t,s,w,dY,aI,iI,C,oG];refine PG (aq a) (aq b) (gz a) (gz b) D E aa 5 _ _ _ ?_ ?_ ?_ ?_ ?_ ?_ ?_
     iterate 6 simp only[go_sem,f]
     ·intro c d L j o hl l g;rw[fF];exact A c d L j o hl l _ g
    ·simp(disch:=omega)only[go_sem,A1,A0,f,p,dt,df,r,jK,t,s,aI,iI,C,oG];refine PG (aq a) (aq b) (gz a) (gz b) D E aa 5 _ _ _ ?_ ?_ ?_ ?_ ?_ ?_ ?_
     iterate 6 simp only[go_sem,f]
     ·intro c d L j o hl l g;rw[fF];exact A c d L j o hl l _ g
 by_cases h:(aq m).length<(aq n).length
 ·simp(disch:=omega)only[go_sem,d237,LF,dt];refine G n m _ aa K (b3 _ _) ?_ ?_
  iterate 2 simp only[go_sem]
 ·simp(disch:=omega)only[go_sem,d237,LF,df];refine G m n _ aa J rfl ?_ ?_
  iterate 2 simp only[go_sem]
theorem xL{x y:Nat}(h:x<18446744073709551616∧y<18446744073709551616):hC (ic .or) [ay (x:Int),ay (y:Int)]=some (.val (ay ((x|||y:Nat):Int))):=by
 show some (aX.val (ay (nN (pN .u64) (eA .u64) (Nat.lor (gX (eA .u64) (x:Int)) (gX (eA .u64) (y:Int))))))=_;rw[show gX (eA .u64) (x:Int)=x from kf h.1,show gX (eA .u64) (y:Int)=y from kf h.2];rfl
theorem sV{s:Nat}(a:s≤64):(18446744073709551616:Nat)=2^(64-s)*2^s:=by rw[←gG,(aa:64-s+s=64)]
theorem GK{x s:Nat}(d:s≤64)(c:a<2^s):a|||(x*2^s)%18446744073709551616=a+(x*2^s)%18446744073709551616:=by
 have b:(x*2^s)%18446744073709551616=(x%2^(64-s))<<<s:=by
  rw[sV d,si,Nat.shiftLeft_eq]
 rw[b,Nat.or_comm,←Nat.shiftLeft_add_eq_or_of_lt c,js]
theorem DC{x s:Nat}(f:s≤64)(g:a<2^s):a+(x*2^s)%18446744073709551616<18446744073709551616:=by
 have e:=sV f;have b:(x*2^s)%18446744073709551616=(x%2^(64-s))*2^s:=by
  rw[e,si]
 have c:x%2^(64-s)+1≤2^(64-s):=eX _ (fR ag);have d:=ee (2^s) c;rw[eu,iP,←e]at d;rw[b];omega
theorem Rt{w:Nat}(b:a≤64):w/2^(64-a)=w*2^a/18446744073709551616:=by
 conv=>rhs;rw[sV b]
 rw[Nat.mul_div_mul_right _ _ (fR ag)]
theorem Ro{s:Nat}(b:a<18446744073709551616):a*2^s/18446744073709551616<2^s:=
 uT (og b (fR ag))
theorem ap9{v:Nat}{X:Nat}(hl:d.length=a)(b:W.val (d++[h])=X):W.val (d++[h+v%18446744073709551616]++[v/18446744073709551616])=X+18446744073709551616^a*v:=by
 rw[←b,W.fM,W.fM,W.fM,aV,hl];simp only[W.val,fy,cG,gP,cS];have e:18446744073709551616^a*v=18446744073709551616^a*(v%18446744073709551616)+18446744073709551616^a*18446744073709551616*(v/18446744073709551616):=by
  rw[cI,←cr,Nat.mod_add_div]
 rw[cr];omega
theorem x1(n s:Nat)(T:s≤63)(ln:(aq n).length<100000):aS 358 [bl (aq n),ay (s:Int)] (bl (aq (n*2^s))):=by
 refine fK (.cons (dW _) (.cons (.int _ _) .nil)) (aT als ?_);have E:=gz n;have D:=gu n;by_cases G:(aq n).length=0
 ·have K:n=0:=oN fun h=>by have:=(ji n).2 h;omega
  simp(disch:=omega)only[go_sem,d358,E1,dt];exact iG (by rw[K,jg]) (dW _)
 ·by_cases U:s=0
  ·subst U;simp(disch:=omega)only[go_sem,d358,E1,df,jU,decide_true];exact iG (by rw[nL,ef]) (dW _)
  ·have a0:¬(64:Int)=0:=ag;have ae:lO (s:Int) 64=0:=by
    show(((s/64:Nat)):Int)=0;omega
   have al:mZ (s:Int) 64=(s:Int):=by
    show(((s%64:Nat)):Int)=_;omega
   have w0:aB .u64 (0:Int)=0:=bV _ ag;have w1:aB .i64 (0:Int)=0:=aI _ ag;have B:((((aq n).length:Nat):Int)+1).toNat=(aq n).length+1:=aa;simp(disch:=omega)only[go_sem,d358,E1,adn,adm,adl,df,jK,mC,ae,al,w0,w1,aI,Int.add_zero,iI,B,oG];generalize aq n=x at E D G ln B⊢
   have Q:ep s (gQ .u64)=s:=ld (aa:s≤64);have R:ep (64-s) (gQ .u64)=64-s:=ld (aa:64-s≤64);have J:aB .u64 ((64:Int)-(s:Int))=((64-s:Nat):Int):=by rw[bV _ aa];omega
   refine bK (fun k a j=>∃(i t:Nat) (A:List Nat),k=x.length-i∧i≤x.length∧rd 5 a=ah 0∧rd 6 a=ay (s:Int)∧rd 7 a=.slice 5 0 (x.length+1) (.known (x.length+1))∧rd 29 a=bl x∧rd 30 a=ah (x.length:Int)∧rd 31 a=ah (i:Int)∧W.az A∧A.length=i∧t<2^s∧W.val (A++[t])=W.val (x.take i)*2^s∧
    eI ((af.zero 5).push (.cells (aM (aW (x.length+1) 0)) 0)) j 5 (aM (A++t::aW (x.length-i) 0))) x.length ⟨0,0,[],rfl,b4 _,?_,?_,?_,?_,?_,?_,W.az.nil,rfl,fR ag,by simp[W.val],eI.refl ?_⟩ ?_
   iterate 5 simp only[go_sem]
   ·simp only[go_sem];rfl
   ·simp only[go_sem];rfl
   rintro k a j ⟨i,t,A,rfl,hi,o,p,d,l,c,m,F,hl,C,g,b⟩;rw[adj];have aw:2^s≤2^63:=gw ag T;have ar:(2:Nat)^63=9223372036854775808:=ag;by_cases O:i<x.length
   ·have ab:=E.getD i;obtain⟨r,S⟩:∃r,x.length-i=r+1:=⟨x.length-i-1,aa⟩;rw[S,qa (n:=r)]at b;have L:=b.at;have u:=GK (x:=x.getD i 0) (aa:s≤64) C;have q:=DC (x:=x.getD i 0) (aa:s≤64) C;have y:=Rt (w:=x.getD i 0) (aa:s≤64);have z:=Ro (s:=s) ab;have w:((x.getD i 0:Nat):Int)*((2^s:Nat):Int)=((x.getD i 0*2^s:Nat):Int):=by rw[fY]
    have f:=ap9 (v:=x.getD i 0*2^s) hl g;have Y:W.val (x.take i)*2^s+18446744073709551616^i*(x.getD i 0*2^s)=W.val (x.take (i+1))*2^s:=by rw[kQ O,eu,cI]
    rw[Y]at f;generalize x.getD i 0*2^s=v at u q y z w f
    have Z:aB .u64 ((v:Nat):Int)=((v%18446744073709551616:Nat):Int):=by rw[hL,Int.natCast_emod];rfl
    have a1:i<(aM (A++t::0::aW r 0)).length:=by rw[eS,aV,hl];simp
    have a2:i<(A++t::0::aW r 0).length:=by rw[aV,hl];simp
    have a3:i+1<(aM (A++(t+v%18446744073709551616)::0::aW r 0)).length:=by rw[eS,aV,hl];simp
    have M:=qs (es:=0::aW r 0) (e:=t) hl;have V:=mc (es:=0::aW r 0) (e:=t) (v:=t+v%18446744073709551616) hl;have X:(A++(t+v%18446744073709551616)::0::aW r 0).set (i+1) (v/18446744073709551616)=A++(t+v%18446744073709551616)::(v/18446744073709551616)::aW r 0:=by
     have:=mc (L:=A++[t+v%18446744073709551616]) (es:=aW r 0) (e:=0) (v:=v/18446744073709551616) (n:=i+1) (by rw[aV,hl];rfl);simpa using this
    have N:((i:Int)+1).toNat=i+1:=aa;have a4:v/18446744073709551616<18446744073709551616:=aa;simp(disch:=omega)only[go_sem,Mq,adi,adh,o,p,d,l,c,m,dt,gU,bW,bH,dY,aI,Int.add_zero,Q,R,J,w,Z,mS,y,L,M,xL,u,fo,ku,V,N,X];refine⟨r,aa,i+1,v/18446744073709551616,A++[t+v%18446744073709551616],aa,aa,?_,?_,?_,?_,?_,?_,F.app (.mk q W.az.nil),by rw[aV,hl];rfl,z,f,?_⟩
    iterate 5 simp only[go_sem,o,p,d,l,c]
    ·simp only[go_sem];rfl
    ·have H:=b.set (aM (A++(t+v%18446744073709551616)::0::aW r 0));have I:=H.set (aM (A++(t+v%18446744073709551616)::(v/18446744073709551616)::aW r 0));rw[(aa:x.length-(i+1)=r)];simpa using I
   ·have e:i=x.length:=aa;simp(disch:=omega)only[go_sem,Mq,adk,d,c,m,df];rw[e,m6,qb]at b;rw[e,b8 (aF _),D]at g;have ad:W.az (A++[t]):=F.app (.mk aa W.az.nil);have P:(A++[t]).length=x.length+1:=by rw[aV,hl,e];rfl
    refine jo (qR (A++[t]) aa) b.at ⟨0,_,_,ec.2 rfl⟩ (.cons (qp b.at (by rw[af.aK,ao rfl]) P) .nil) ?_;simp only[go_sem];exact iG (by rw[me ad,g]) (dW _)
theorem Rp{s e:Nat}(a:s≤64):(e*2^(64-s))%18446744073709551616=(e%2^s)*2^(64-s):=by
 have h:(18446744073709551616:Nat)=2^s*2^(64-s):=by rw[←gG,(aa:s+(64-s)=64)]
 rw[h,si]
theorem Fk{s d:Nat}(b:s≤64)(a:d<18446744073709551616):d/2^s<2^(64-s):=by
 refine uT ?_;rw[←gG,(aa:s+(64-s)=64)];exact a
theorem v9(h:a<d.length):d.take (a+1)=d.take a++[d.getD a 0]:=by
 rw[kU h,cy,cx h];rfl
theorem aqc(n s:Nat)(E:s≤63)(ln:(aq n).length<100000):aS 363 [bl (aq n),ay (s:Int)] (bl (aq (n/2^s))):=by
 refine fK (.cons (dW _) (.cons (.int _ _) .nil)) (aT F9 ?_);have l:=gz n;have G:=gu n;have a0:¬(64:Int)=0:=ag;have J:lO (s:Int) 64=0:=by
  show(((s/64:Nat)):Int)=0;omega
 have ar:mZ (s:Int) 64=(s:Int):=by
  show(((s%64:Nat)):Int)=_;omega
 have K:aB .u64 (0:Int)=0:=bV _ ag;have w1:aB .i64 (0:Int)=0:=aI _ ag;have L:aB .u64 (((aq n).length:Nat):Int)=(((aq n).length:Nat):Int):=bV _ aa;by_cases M:(aq n).length=0
 ·have P:n=0:=oN fun h=>by have:=(ji n).2 h;omega
  simp(disch:=omega)only[go_sem,d363,A4,jK,J,K,L,df];rw[P,Nat.zero_div,j3];exact⟨_,.fL,.row 0 .nil,rfl⟩
 ·have ht:((((aq n).length:Nat):Int)-0).toNat=(aq n).length:=aa;simp(disch:=omega)only[go_sem,d363,A4,Mw,Mv,Mu,dt,jK,mC,J,ar,K,w1,L,aI,Int.sub_zero,bH,iI,oG];generalize aq n=x at l G M ln⊢
  obtain⟨y,e⟩:∃y,y=W.shr s x:=⟨_,rfl⟩;have ae:y.length=x.length:=by rw[e,W.s6]
  have am:W.val y=n/2^s:=by rw[e,W.x3 E,G]
  have al:W.az y:=by rw[e];exact W.vW E l
  have ad:∀i,i<x.length→y.getD i 0=x.getD i 0/2^s+(x.getD (i+1) 0%2^s)*2^(64-s):=fun i hi=>by rw[e];exact W.x2 hi
  clear e;have C:ep s (gQ .u64)=s:=ld (aa:s≤64);have X:ep (64-s) (gQ .u64)=64-s:=ld (aa:64-s≤64);have O:aB .u64 ((64:Int)-(s:Int))=((64-s:Nat):Int):=by rw[bV _ aa];omega
  refine bK (fun k a w=>∃i:Nat,k=x.length-i∧i≤x.length∧rd 0 a=bl x∧rd 5 a=ah 0∧rd 6 a=ay (s:Int)∧rd 7 a=.slice 5 0 x.length (.known x.length)∧rd 26 a=ah (x.length:Int)∧rd 27 a=ah (i:Int)∧
   eI ((af.zero 5).push (.cells (aM (aW x.length 0)) 0)) w 5 (aM (y.take i++aW (x.length-i) 0))) x.length ⟨0,rfl,b4 _,?_,?_,?_,?_,?_,?_,eI.refl ?_⟩ ?_
  iterate 5 simp only[go_sem]
  ·simp only[go_sem];rfl
  ·simp only[go_sem];rfl
  rintro k a w ⟨i,rfl,hi,f,g,j,d,c,o,b⟩;rw[Ms];by_cases U:i<x.length
  ·have I:=l.getD i;have a6:=l.getD (i+1);obtain⟨r,Z⟩:∃r,x.length-i=r+1:=⟨x.length-i-1,aa⟩;rw[Z,qa (n:=r)]at b;have hl:(y.take i).length=i:=g_ aa;have a2:i<(aM (y.take i++0::aW r 0)).length:=by rw[eS,aV,hl];simp
   have A:=b.at;have F:=fun v=>mc (es:=aW r 0) (e:=0) (v:=v) hl
   have p:=b.set (aM (y.take i++(x.getD i 0/2^s)::aW r 0));have m:=ad i U;have z:=Fk (s:=s) aa I;have S:((i:Int)+1).toNat=i+1:=aa;by_cases a1:i+1<x.length
   ·have t:=Rp (e:=x.getD (i+1) 0) (s:=s) aa;have q:=GK (x:=x.getD (i+1) 0) (s:=64-s) aa z;have V:=DC (x:=x.getD (i+1) 0) (s:=64-s) aa z;rw[t,←m]at q V;have Y:((x.getD (i+1) 0:Nat):Int)*((2^(64-s):Nat):Int)=((x.getD (i+1) 0*2^(64-s):Nat):Int):=by rw[fY]
    have H:aB .u64 ((x.getD (i+1) 0*2^(64-s):Nat):Int)=(((x.getD (i+1) 0%2^s)*2^(64-s):Nat):Int):=by
     rw[hL,←t,Int.natCast_emod];rfl
    have B:(x.getD (i+1) 0%2^s)*2^(64-s)<18446744073709551616:=by rw[←t];exact eX _ ag
    have Q:x.getD i 0/2^s<18446744073709551616:=e_ (ju _ _) I;have a3:i<(aM (y.take i++(x.getD i 0/2^s)::aW r 0)).length:=by rw[eS,aV,hl];simp
    have a4:i<(y.take i++(x.getD i 0/2^s)::aW r 0).length:=by rw[aV,hl];simp
    have R:=qs (es:=aW r 0) (e:=x.getD i 0/2^s) hl;have ab:=mc (es:=aW r 0) (e:=x.getD i 0/2^s) (v:=y.getD i 0) hl;generalize(x.getD (i+1) 0%2^s)*2^(64-s)=u at q H B
    have D:=xL ⟨Q,B⟩;rw[q]at D;simp(disch:=omega)only[go_sem,w8,A3,A2,f,g,j,d,c,o,dt,gU,bW,bH,S,dY,aI,Int.add_zero,C,X,O,Y,H,mS,A,R,D,fo,ku,F,ab];refine⟨r,aa,i+1,aa,aa,?_,?_,?_,?_,?_,?_,?_⟩
    iterate 5 simp only[go_sem,f,g,j,d,c]
    ·simp only[go_sem];rfl
    ·have N:=p.set (aM (y.take i++y.getD i 0::aW r 0));rw[(aa:x.length-(i+1)=r),v9 aa,fl];exact N
   ·have ac:x.getD (i+1) 0=0:=by rw[cy,m0 aa];rfl
    rw[ac,Nat.zero_mod,jg,cG]at m;rw[←m]at p;simp(disch:=omega)only[go_sem,w8,A3,A2,f,g,j,d,c,o,dt,df,gU,bW,bH,dY,aI,Int.add_zero,C,mS,A,fo,ku,F,←m];refine⟨r,aa,i+1,aa,aa,?_,?_,?_,?_,?_,?_,?_⟩
    iterate 5 simp only[go_sem,f,g,j,d,c]
    ·simp only[go_sem];rfl
    ·rw[(aa:x.length-(i+1)=r),v9 aa,fl];exact p
  ·have T:i=x.length:=aa;simp(disch:=omega)only[go_sem,w8,Mt,d,c,o,df];rw[T,m6,qb,fN,b8 aa]at b;refine jo (qR y aa) b.at ⟨0,_,_,ec.2 rfl⟩ (.cons (qp b.at (by rw[af.aK,ao rfl]) ae) .nil) ?_;simp only[go_sem];exact iG (by rw[me al,am]) (dW _)
def eP(n:Nat):Nat:=if n=0 then 0 else n.log2+1
theorem Pk(n:Nat):n<2^eP n:=by
 unfold eP;split
 ·omega
 ·exact Nat.lt_log2_self
theorem Pj{n:Nat}(h:n≠0):2^(eP n-1)≤n:=by
 unfold eP;rw[aj h,q7];exact Nat.log2_self_le h
theorem BX(b:a<2^h):eP a≤h:=by
 unfold eP;split
 ·omega
 ·rename_i c;exact(Nat.log2_lt c).2 b
theorem Gi{x k:Nat}(h:2^k≤x):eP x=k+eP (x/2^k):=by
 have a:0<2^k:=fR ag;have b:x≠0:=aa;have c:x/2^k≠0:=by
  have:=(tD a).2 (aa:1*2^k≤x);omega
 unfold eP;rw[aj b,aj c];have e:=(Nat.log2_eq_iff c).1 rfl;have:x.log2=k+(x/2^k).log2:=by
  rw[Nat.log2_eq_iff b];refine⟨?_,?_⟩
  ·rw[gG,b3];exact(tD a).1 e.1
  ·rw[mo,gG,b3];exact(q8 a).1 e.2
 omega
def HS:List UInt8:=[0,1,2,2,3,3,3,3,4,4,4,4,4,4,4,4,5,5,5,5,5,5,5,5,5,5,5,5,5,5,5,5,6,6,6,6,6,6,6,6,6,6,6,6,6,6,6,6,6,6,6,6,6,6,6,6,6,6,6,6,6,6,6,6,7,7,7,7,7,7,7,7,7,7,7,7,7,7,7,7,7,7,7,7,7,7,7,7,7,7,7,7,7,7,7,7,7,7,7,7,7,7,7,7,7,7,7,7,7,7,7,7,7,7,7,7,7,7,7,7,7,7,7,7,7,7,7,7,8,8,8,8,8,8,8,8,8,8,8,8,8,8,8,8,8,8,8,8,8,8,8,8,8,8,8,8,8,8,8,8,8,8,8,8,8,8,8,8,8,8,8,8,8,8,8,8,8,8,8,8,8,8,8,8,8,8,8,8,8,8,8,8,8,8,8,8,8,8,8,8,8,8,8,8,8,8,8,8,8,8,8,8,8,8,8,8,8,8,8,8,8,8,8,8,8,8,8,8,8,8,8,8,8,8,8,8,8,8,8,8,8,8,8,8,8,8,8,8,8,8,8,8,8,8,8,8]
def JY(t:List UInt8):aP:=(.seq (.bP [ex 19 (mv (rd 2)),ex 20 (mv (rd 0)),ex 21 (cw .u8 (rd 20)),ex 22 (cF (kc (.str t)) (rd 21)),ex 23 (cw .i64 (rd 22)),ex 24 (bi .add (rd 19) (rd 23)),ex 2 (bN (rd 24))])
 .ret)
theorem TX:(pc 218 0)=JY HS:=Zm
theorem ajh(h:a<256):kK [.str HS,.int .u8 (a:Int)]=some (.val (.int .u8 ((eP a:Nat):Int))):=by
 have b:∀a,a<256→HS[a]? =some (g6 (eP a))∧eP a<256:=by decide+kernel
 obtain⟨c,d⟩:=b a h;rw[oA (c:=g6 (eP a)) aa (by rw[bH];exact c)];rw[show(g6 (eP a)).toNat=eP a from by rw[UInt8.toNat_ofNat'];exact kf d]
theorem Ph(n:Nat)(m:n<18446744073709551616):aS 218 [ay (n:Int)] (ah ((eP n:Nat):Int)):=by
 refine cM (.cons (.int _ _) .nil) (.int _ _) (aT akE ?_);have hl:eP n≤64:=BX aa;have i:∀(x d:Nat) (F:Fr),x<256→eP n=d+eP x→rd 0 F=ay (x:Int)→rd 2 F=ah (d:Int)→bw (pc 218 0) (fu [.tmp 2] fun v _=>v=ah ((eP n:Nat):Int)) F (af.zero 5):=by
  intro x d F g e a b;have l:aB .u8 ((x:Nat):Int)=(x:Int):=FB _ aa;rw[TX];simp(disch:=omega)only[go_sem,JY,a,b,l,ajh,aI];congr 1;omega
 have j:∀(x d:Nat) (F:Fr),x<65536→eP n=d+eP x→rd 0 F=ay (x:Int)→rd 2 F=ah (d:Int)→bw (pc 218 1) (fu [.tmp 2] fun v _=>v=ah ((eP n:Nat):Int)) F (af.zero 5):=by
  intro x d F g e a b;have c:ep 8 (gQ .u64)=8:=rfl;by_cases h:x<256
  ·simp(disch:=omega)only[go_sem,Lq,a,dt];refine i x d _ h e ?_ ?_
   iterate 2 simp only[go_sem,a,b]
  ·have f:=Gi (x:=x) (k:=8) aa;simp(disch:=omega)only[go_sem,Lq,a,b,df,c,mS,aI];refine i (x/2^8) (d+8) _ aa aa ?_ ?_
   ·simp only[go_sem]
   ·simp only[go_sem];rfl
 have k:∀(x d:Nat) (F:Fr),x<4294967296→eP n=d+eP x→rd 0 F=ay (x:Int)→rd 2 F=ah (d:Int)→bw (pc 218 2) (fu [.tmp 2] fun v _=>v=ah ((eP n:Nat):Int)) F (af.zero 5):=by
  intro x d F g e a b;have c:ep 16 (gQ .u64)=16:=rfl;by_cases h:x<65536
  ·simp(disch:=omega)only[go_sem,Lr,a,dt];refine j x d _ h e ?_ ?_
   iterate 2 simp only[go_sem,a,b]
  ·have f:=Gi (x:=x) (k:=16) aa;simp(disch:=omega)only[go_sem,Lr,a,b,df,c,mS,aI];refine j (x/2^16) (d+16) _ aa aa ?_ ?_
   ·simp only[go_sem]
   ·simp only[go_sem];rfl
 have c:ep 32 (gQ .u64)=32:=rfl;by_cases h:n<4294967296
 ·simp(disch:=omega)only[go_sem,d218,Ls,dt];refine k n 0 _ h aa ?_ ?_
  ·simp only[go_sem]
  ·simp only[go_sem];rfl
 ·have f:=Gi (x:=n) (k:=32) aa;simp(disch:=omega)only[go_sem,d218,Ls,df,c,mS];refine k (n/2^32) 32 _ aa aa ?_ ?_
  ·simp only[go_sem]
  ·simp only[go_sem];rfl
theorem zn(n:Nat)(a:n<18446744073709551616):aS 308 [ay (n:Int)] (ah ((64-eP n:Nat):Int)):=by
 refine cM (.cons (.int _ _) .nil) (.int _ _) (aT ali ?_);have hl:eP n≤64:=BX aa;simp only[go_sem,d308,ab6];refine use (Ph n a) ?_;simp(disch:=omega)only[go_sem,aI];congr 1;omega
theorem zo{y:Nat}(b:y≠0)(g:y<18446744073709551616):64-eP y≤63∧9223372036854775808≤y*2^(64-eP y)∧y*2^(64-eP y)<18446744073709551616:=by
 have hl:eP y≤64:=BX aa;have a:=Pk y;have c:=Pj b;have f:eP y≠0:=fun e=>by rw[e]at a;omega
 have d:0<2^(64-eP y):=fR ag;refine⟨aa,?_,?_⟩
 ·have:=ee (2^(64-eP y)) c;rw[←gG,(aa:eP y-1+(64-eP y)=63)]at this;exact this
 ·have:=og a d;rw[←gG,(aa:eP y+(64-eP y)=64)]at this;exact this
theorem Nn{q r:Nat}(b:lN a h u L q r)(c:(a*4294967296+h)/(u*4294967296+L)<q):lN a h u L (q-1) (r+u):=by
 have e:q*u=(q-1)*u+u:=by
  cases q with
  |zero=>exact absurd c (m5 _)
  |succ q=>rw[q7,eu,iP]
 exact⟨by have:=b.top;omega,aa⟩
theorem agk(u d a b:Nat)(C:d<4294967296)(P:2147483648≤a∧a<4294967296)(a5:b<4294967296)(hu:u<a*4294967296+b)(F:Fr)(H:af)(R:X→Fr→af→Prop)(J:rd 15 F=ay ((u/a:Nat):Int))(I:rd 16 F=ay ((u%a:Nat):Int))(x:rd 9 F=ay (a:Int))(G:rd 10 F=ay (b:Int))(K:rd 13 F=ay (d:Int))
 (B:∀w,(∀t,t<67→t≠15→t≠16→rd t w=rd t F)→rd 15 w=ay (((u*4294967296+d)/(a*4294967296+b):Nat):Int)→R (.exit 0) w H):bw (.loop (pc 314 4)) R F H:=by
 have am:u<a*4294967298:=by
  obtain⟨f,c⟩:=P;have e:a*4294967298=a*4294967296+a*2:=cr a 4294967296 2;rw[e];clear B J I x G K C c e;generalize a*4294967296=z at*
  omega
 have ab:u*4294967296+d<(a*4294967296+b)*4294967296:=aa;have Z:=uT ab;obtain⟨Q,A⟩:∃Q,Q=(u*4294967296+d)/(a*4294967296+b):=⟨_,rfl⟩;rw[←A]at Z;have O:=uT (m:=u) (n:=a) (k:=4294967298) am;have ae:u/a≤4294967297:=by
  generalize u/a=z at O
  omega
 refine bK (fun k i p=>∃r:Nat,(∀t,t<67→t≠15→t≠16→rd t i=rd t F)∧rd 15 i=ay (k:Int)∧rd 16 i=ay (r:Int)∧lN u d a b k r∧r<4294967296∧k≤4294967297∧p=H) (u/a) ⟨u%a,fun _ _ _ _=>rfl,J,I,lN.start C aa,qg (eX _ aa) P.2,ae,rfl⟩ ?_;rintro q i p ⟨r,j,mF,s,v,hr,hq,rfl⟩;have f9:=(j 9 ag ag ag).trans x;have L:=(j 10 ag ag ag).trans G;have M:=(j 13 ag ag ag).trans K;rw[acB];have V:aB .u64 ((r:Int)+(a:Int))=((r+a:Nat):Int):=by rw[bV _ aa];omega
 have ad:=v.ge;rw[←A]at ad;have E:lN u d a b (q-1) (r+a)→1≤q→∀l:Fr,(∀t,t<67→t≠15→t≠16→rd t l=rd t F)→rd 15 l=ay (q:Int)→rd 16 l=ay (r:Int)→bw (pc 314 3) (fD (oS (fun k i Y=>∃r:Nat,(∀t,t<67→t≠15→t≠16→rd t i=rd t F)∧rd 15 i=ay (k:Int)∧rd 16 i=ay (r:Int)∧lN u d a b k r∧r<4294967296∧k≤4294967297∧Y=p) q) R) l p:=by
  intro N O l y rE sH;have cW:=(y 9 ag ag ag).trans x;have W:aB .u64 ((q:Int)-1)=((q-1:Nat):Int):=by rw[bV _ aa];omega
  by_cases hb:4294967296≤r+a
  ·simp(disch:=omega)only[go_sem,Mi,Me,Md,Mc,rE,sH,cW,W,V,df];rw[DM ag];have D:q-1=(u*4294967296+d)/(a*4294967296+b):=by
    refine N.done aa ?_;have f:(q-1)*b≤4294967296*4294967295:=jX aa aa;have c:4294967296*4294967296≤(r+a)*4294967296:=ee _ hb;omega
   refine B _ (fun t f c g=>?_) ?_
   ·simp(disch:=omega)only[bU];exact y t f c g
   ·simp only[go_sem,D]
  ·simp(disch:=omega)only[go_sem,Mi,Me,Md,Mc,rE,sH,cW,W,V,dt];refine⟨q-1,aa,r+a,fun t f c g=>?_,?_,?_,N,aa,aa,rfl⟩
   ·simp(disch:=omega)only[bU];exact y t f c g
   iterate 2 simp only[go_sem]
 by_cases a2:4294967296≤q
 ·simp(disch:=omega)only[go_sem,mF,df];refine E (Nn v (by rw[←A];omega)) aa _ (fun t f c g=>?_) ?_ ?_
  ·simp(disch:=omega)only[bU];exact j t f c g
  iterate 2 simp only[go_sem,mF,s]
 ·have hm:q*b≤4294967295*4294967295:=jX aa aa;have S:aB .u64 ((q:Int)*(b:Int))=((q*b:Nat):Int):=by rw[←fY];exact bV _ aa
  have T:aB .u64 ((4294967296:Int)*(r:Int))=((r*4294967296:Nat):Int):=by rw[bV _ aa];omega
  have U:aB .u64 (((r*4294967296:Nat):Int)+(d:Int))=((r*4294967296+d:Nat):Int):=by rw[bV _ aa];omega
  by_cases o:r*4294967296+d<q*b
  ·have ar:(((r*4294967296+d:Nat):Int))<((q*b:Nat):Int):=oc.2 o;have al:1≤q:=by
    rcases r_ q with e|e
    ·rw[e,jg]at o;omega
    ·exact e
   simp(disch:=omega)only[go_sem,mF,s,L,M,dt,S,T,U];refine E (v.down C aa o) al _ (fun t f c g=>?_) ?_ ?_
   ·simp(disch:=omega)only[bU];exact j t f c g
   iterate 2 simp only[go_sem,mF,s]
  ·have D:=v.done aa (jW o);have a0:¬(((r*4294967296+d:Nat):Int))<((q*b:Nat):Int):=fun h=>o (oc.1 h)
   simp(disch:=omega)only[go_sem,mF,s,L,M,dt,df,S,T,U];refine B _ (fun t f c g=>?_) ?_
   ·simp(disch:=omega)only[bU];exact j t f c g
   ·simp only[go_sem,mF,D]
theorem agl(u d a b:Nat)(C:d<4294967296)(P:2147483648≤a∧a<4294967296)(a5:b<4294967296)(hu:u<a*4294967296+b)(F:Fr)(H:af)(R:X→Fr→af→Prop)(J:rd 18 F=ay ((u/a:Nat):Int))(I:rd 16 F=ay ((u%a:Nat):Int))(x:rd 9 F=ay (a:Int))(G:rd 10 F=ay (b:Int))(K:rd 14 F=ay (d:Int))
 (B:∀w,(∀t,t<67→t≠18→t≠16→rd t w=rd t F)→rd 18 w=ay (((u*4294967296+d)/(a*4294967296+b):Nat):Int)→R (.exit 2) w H):bw (.loop (pc 314 9)) R F H:=by
 have am:u<a*4294967298:=by
  obtain⟨f,c⟩:=P;have e:a*4294967298=a*4294967296+a*2:=cr a 4294967296 2;rw[e];clear B J I x G K C c e;generalize a*4294967296=z at*
  omega
 have ab:u*4294967296+d<(a*4294967296+b)*4294967296:=aa;have Z:=uT ab;obtain⟨Q,A⟩:∃Q,Q=(u*4294967296+d)/(a*4294967296+b):=⟨_,rfl⟩;rw[←A]at Z;have O:=uT (m:=u) (n:=a) (k:=4294967298) am;have ae:u/a≤4294967297:=by
  generalize u/a=z at O
  omega
 refine bK (fun k i p=>∃r:Nat,(∀t,t<67→t≠18→t≠16→rd t i=rd t F)∧rd 18 i=ay (k:Int)∧rd 16 i=ay (r:Int)∧lN u d a b k r∧r<4294967296∧k≤4294967297∧p=H) (u/a) ⟨u%a,fun _ _ _ _=>rfl,J,I,lN.start C aa,qg (eX _ aa) P.2,ae,rfl⟩ ?_;rintro q i p ⟨r,j,mF,s,v,hr,hq,rfl⟩;have f9:=(j 9 ag ag ag).trans x;have L:=(j 10 ag ag ag).trans G;have M:=(j 14 ag ag ag).trans K;rw[acC];have V:aB .u64 ((r:Int)+(a:Int))=((r+a:Nat):Int):=by rw[bV _ aa];omega
 have ad:=v.ge;rw[←A]at ad;have E:lN u d a b (q-1) (r+a)→1≤q→∀l:Fr,(∀t,t<67→t≠18→t≠16→rd t l=rd t F)→rd 18 l=ay (q:Int)→rd 16 l=ay (r:Int)→bw (pc 314 8) (fD (oS (fun k i Y=>∃r:Nat,(∀t,t<67→t≠18→t≠16→rd t i=rd t F)∧rd 18 i=ay (k:Int)∧rd 16 i=ay (r:Int)∧lN u d a b k r∧r<4294967296∧k≤4294967297∧Y=p) q) R) l p:=by
  intro N O l y rE sH;have cW:=(y 9 ag ag ag).trans x;have W:aB .u64 ((q:Int)-1)=((q-1:Nat):Int):=by rw[bV _ aa];omega
  by_cases hb:4294967296≤r+a
  ·simp(disch:=omega)only[go_sem,Mm,Ml,Mk,Mj,rE,sH,cW,W,V,df];rw[DM ag];have D:q-1=(u*4294967296+d)/(a*4294967296+b):=by
    refine N.done aa ?_;have f:(q-1)*b≤4294967296*4294967295:=jX aa aa;have c:4294967296*4294967296≤(r+a)*4294967296:=ee _ hb;omega
   refine B _ (fun t f c g=>?_) ?_
   ·simp(disch:=omega)only[bU];exact y t f c g
   ·simp only[go_sem,D]
  ·simp(disch:=omega)only[go_sem,Mm,Ml,Mk,Mj,rE,sH,cW,W,V,dt];refine⟨q-1,aa,r+a,fun t f c g=>?_,?_,?_,N,aa,aa,rfl⟩
   ·simp(disch:=omega)only[bU];exact y t f c g
   iterate 2 simp only[go_sem]
 by_cases a2:4294967296≤q
 ·simp(disch:=omega)only[go_sem,mF,df];refine E (Nn v (by rw[←A];omega)) aa _ (fun t f c g=>?_) ?_ ?_
  ·simp(disch:=omega)only[bU];exact j t f c g
  iterate 2 simp only[go_sem,mF,s]
 ·have hm:q*b≤4294967295*4294967295:=jX aa aa;have S:aB .u64 ((q:Int)*(b:Int))=((q*b:Nat):Int):=by rw[←fY];exact bV _ aa
  have T:aB .u64 ((4294967296:Int)*(r:Int))=((r*4294967296:Nat):Int):=by rw[bV _ aa];omega
  have U:aB .u64 (((r*4294967296:Nat):Int)+(d:Int))=((r*4294967296+d:Nat):Int):=by rw[bV _ aa];omega
  by_cases o:r*4294967296+d<q*b
  ·have ar:(((r*4294967296+d:Nat):Int))<((q*b:Nat):Int):=oc.2 o;have al:1≤q:=by
    rcases r_ q with e|e
    ·rw[e,jg]at o;omega
    ·exact e
   simp(disch:=omega)only[go_sem,mF,s,L,M,dt,S,T,U];refine E (v.down C aa o) al _ (fun t f c g=>?_) ?_ ?_
   ·simp(disch:=omega)only[bU];exact j t f c g
   iterate 2 simp only[go_sem,mF,s]
  ·have D:=v.done aa (jW o);have a0:¬(((r*4294967296+d:Nat):Int))<((q*b:Nat):Int):=fun h=>o (oc.1 h)
   simp(disch:=omega)only[go_sem,mF,s,L,M,dt,df,S,T,U];refine B _ (fun t f c g=>?_) ?_
   ·simp(disch:=omega)only[bU];exact j t f c g
   ·simp only[go_sem,mF,D]
theorem agb{Y N:Nat}(b5:N=(h*a+u)*a+L)(d:0<Y):
 N/Y=(h*a+u)/Y*a+((h*a+u)%Y*a+L)/Y∧N%Y=((h*a+u)%Y*a+L)%Y:=by
 obtain⟨M,c⟩:∃M,M=h*a+u:=⟨_,rfl⟩;rw[←c]at b5⊢;have e:=jt M Y;have b:N=(M%Y*a+L)+Y*(M/Y*a):=by
  have f:M*a=Y*(M/Y*a)+M%Y*a:=by
   rw[←cI,←eu,e]
  omega
 rw[b,Nat.add_mul_div_left _ _ d,Nat.add_mul_mod_self_left];exact⟨js _ _,rfl⟩
theorem A8(hi lo y:Nat)(hh:hi<y)(K:lo<18446744073709551616)(B:y<18446744073709551616):aS 314 [ay (hi:Int),ay (lo:Int),ay (y:Int)] (.aA [ay (((hi*18446744073709551616+lo)/y:Nat):Int),ay (((hi*18446744073709551616+lo)%y:Nat):Int)]):=by
 by_cases h0:hi=0
 ·subst h0;have:=af2 lo y K ⟨aa,B⟩;rw[jg,eJ];exact this
 refine cM (.cons (.int _ _) (.cons (.int _ _) (.cons (.int _ _) .nil))) (.aA (.cons (.int _ _) (.cons (.int _ _) .nil))) (aT OZ ?_);obtain⟨V,a8,a9⟩:=zo (y:=y) aa B;have M:=zn y B;obtain⟨s,U⟩:∃s,s=64-eP y:=⟨_,rfl⟩;rw[←U]at V a8 a9 M;clear U;have E:0<2^s:=fR ag;have dq:2^s≤2^63:=gw ag V;have dp:(2:Nat)^63=9223372036854775808:=ag;have bi:((y:Nat):Int)*((2^s:Nat):Int)=((y*2^s:Nat):Int):=by rw[fY]
 have bd:((hi:Nat):Int)*((2^s:Nat):Int)=((hi*2^s:Nat):Int):=by rw[fY]
 have be:((lo:Nat):Int)*((2^s:Nat):Int)=((lo*2^s:Nat):Int):=by rw[fY]
 have W:=Rt (w:=lo) (aa:s≤64);have X:=Ro (s:=s) K;have q:hi*2^s|||lo*2^s/18446744073709551616=hi*2^s+lo*2^s/18446744073709551616:=by
  rw[←Nat.shiftLeft_eq hi s,←Nat.shiftLeft_add_eq_or_of_lt X]
 have dT:hi*2^s+2^s≤y*2^s:=by
  have:=ee (2^s) hh;rw[oR]at this;exact this
 have J:(hi*18446744073709551616+lo)*2^s/(y*2^s)=(hi*18446744073709551616+lo)/y:=Nat.mul_div_mul_right _ _ E;have N:(hi*18446744073709551616+lo)*2^s%(y*2^s)=(hi*18446744073709551616+lo)%y*2^s:=si _ _ _;have F:(hi*18446744073709551616+lo)*2^s=hi*2^s*18446744073709551616+lo*2^s:=by rw[eu,uW]
 rw[F]at J N;clear F;have O:ep s (gQ .u64)=s:=ld (aa:s≤64);have bc:ep (64-s) (gQ .u64)=64-s:=ld (aa:64-s≤64);have a5:aB .u64 ((64:Int)-(s:Int))=((64-s:Nat):Int):=by rw[bV _ aa];omega
 have ba:aB .u64 ((s:Nat):Int)=(s:Int):=bV _ aa;generalize y*2^s=Y at*
 generalize lo*2^s=L at*
 generalize hi*2^s=P at*
 obtain⟨t,Z⟩:∃t,t=L/18446744073709551616:=⟨_,rfl⟩;obtain⟨l,hl⟩:∃l,l=L%18446744073709551616:=⟨_,rfl⟩;have ds:L=t*18446744073709551616+l:=aa;rw[←Z]at W q X;have bb:l<18446744073709551616:=aa;have b':aB .u64 ((L:Nat):Int)=(l:Int):=by rw[hL];omega
 clear Z hl;obtain⟨u,hu⟩:∃u,u=P+t:=⟨_,rfl⟩;rw[←hu]at q;have d1:u<Y:=aa;have b5:P*18446744073709551616+L=(u*4294967296+l/4294967296)*4294967296+l%4294967296:=aa;obtain⟨g,j⟩:=agb b5 (aa:0<Y);rw[J]at g;rw[N]at j;obtain⟨a,e1⟩:∃v,v=Y/4294967296:=⟨_,rfl⟩;obtain⟨i,e0⟩:∃v,v=Y%4294967296:=⟨_,rfl⟩;have I:Y=a*4294967296+i:=aa;have ac:2147483648≤a∧a<4294967296:=aa;have ab:i<4294967296:=aa;have d6:¬((y:Nat):Int)=0:=aa;have d5:¬((hi:Nat):Int)=0:=aa;have d0:((hi:Nat):Int)<(y:Int):=aa;have R:=xL (x:=P) (y:=t) ⟨aa,aa⟩;rw[q]at R;simp(disch:=assumption)only[go_sem,d314,Mh,Mg,Mf,acA,df,dt];refine use M ?_;have a':aB .u64 ((Y:Nat):Int)=(Y:Int):=bV _ aa;have a7:aB .u64 ((P:Nat):Int)=(P:Int):=bV _ aa;have dC:=jt u a;have bs:u/a*a≤u:=wG _ _;have bj:u/a<18446744073709551616:=e_ (ju _ _) aa;have da:aB .u64 ((u/a:Nat):Int)=((u/a:Nat):Int):=bV _ ⟨uP _,oc.2 bj⟩;have b0:u/a*a<18446744073709551616:=aa;have c2:aB .u64 (((u/a:Nat):Int)*(a:Int))=((u/a*a:Nat):Int):=by rw[←fY];exact bV _ ⟨uP _,oc.2 b0⟩
 have ws:aB .u64 (((u:Nat):Int)-((u/a*a:Nat):Int))=((u%a:Nat):Int):=by
  rw[b3]at bs⊢;generalize a*(u/a)=z at*
  generalize u%a=dl at*
  rw[bV _ aa];omega
 have d2:¬((a:Nat):Int)=0:=aa;have C:=AE (n:=Y) aa;rw[←e0]at C;have al:=AE bb;have c0:ep 32 (gQ .u64)=32:=rfl;have ar:∀n:Nat,n/2^32=n/4294967296:=fun n=>by rw[(ag:(2:Nat)^32=4294967296)]
 simp(disch:=assumption)only[go_sem,acz,acy,acw,acv,acu,acs,acr,acq,acp,aco,ba,O,bi,a',c0,ar,←e1,C,bd,a7,a5,bc,mS,W,R,be,b',al,jK,s8,da,c2,ws];refine agk u (l/4294967296) a i aa ac ab aa _ _ _ ?_ ?_ ?_ ?_ ?_ ?_
 iterate 5 simp only[go_sem]
 intro d b rE;rw[←I]at rE;have D:rd 2 d=ay (Y:Int):=(b 2 ag ag ag).trans (by simp only[go_sem]);have eY:rd 8 d=ay (s:Int):=(b 8 ag ag ag).trans (by simp only[go_sem]);have cW:rd 9 d=ay (a:Int):=(b 9 ag ag ag).trans (by simp only[go_sem]);have aw:rd 10 d=ay (i:Int):=(b 10 ag ag ag).trans (by simp only[go_sem]);have iy:rd 11 d=ay (u:Int):=(b 11 ag ag ag).trans (by simp only[go_sem]);have sG:rd 13 d=ay ((l/4294967296:Nat):Int):=(b 13 ag ag ag).trans (by simp only[go_sem]);have rD:rd 14 d=ay ((l%4294967296:Nat):Int):=(b 14 ag ag ag).trans (by simp only[go_sem]);clear b;obtain⟨c,H⟩:∃Q,Q=(u*4294967296+l/4294967296)/Y:=⟨_,rfl⟩;obtain⟨w,r⟩:∃w,w=(u*4294967296+l/4294967296)%Y:=⟨_,rfl⟩;have m:=jt (u*4294967296+l/4294967296) Y;have d3:w<Y:=by rw[r];exact eX _ aa
 rw[←H]at rE g m;rw[←r]at g j m;clear H r;have dv:c<4294967296:=by
  refine tF fun h=>?_
  have:=fE Y h;generalize Y*c=z at*
  omega
 have k1:aB .u64 ((u:Int)*4294967296)=((u*4294967296%18446744073709551616:Nat):Int):=by rw[hL];omega
 have k2:aB .u64 (((u*4294967296%18446744073709551616:Nat):Int)+((l/4294967296:Nat):Int))=(((u*4294967296+l/4294967296)%18446744073709551616:Nat):Int):=by rw[hL];omega
 obtain⟨p,S⟩:∃p,p=Y*c:=⟨_,rfl⟩;rw[←S]at m;have bB:aB .u64 ((c:Int)*(Y:Int))=((p%18446744073709551616:Nat):Int):=by rw[←fY,b3,←S,hL];omega
 have ce:aB .u64 ((((u*4294967296+l/4294967296)%18446744073709551616:Nat):Int)-((p%18446744073709551616:Nat):Int))=(w:Int):=by rw[hL];omega
 have dE:=jt w a;have bv:w/a*a≤w:=wG _ _;have bo:w/a<18446744073709551616:=e_ (ju _ _) aa;have db:aB .u64 ((w/a:Nat):Int)=((w/a:Nat):Int):=bV _ ⟨uP _,oc.2 bo⟩;have b1:w/a*a<18446744073709551616:=aa;have c':aB .u64 (((w/a:Nat):Int)*(a:Int))=((w/a*a:Nat):Int):=by rw[←fY];exact bV _ ⟨uP _,oc.2 b1⟩
 have dk:aB .u64 (((w:Nat):Int)-((w/a*a:Nat):Int))=((w%a:Nat):Int):=by
  rw[b3]at bv⊢;generalize a*(w/a)=z at*
  generalize w%a=dl at*
  rw[bV _ aa];omega
 rw[fF];simp(disch:=assumption)only[go_sem,acn,acm,ack,acj,D,cW,iy,sG,rE,k1,k2,bB,ce,jK,s8,db,c',dk];refine agl w (l%4294967296) a i aa ac ab aa _ _ _ ?_ ?_ ?_ ?_ ?_ ?_
 iterate 5 simp only[go_sem,cW,aw,rD]
 intro f b k;rw[←I]at k;have h2:rd 2 f=ay (Y:Int):=(b 2 ag ag ag).trans (by simp only[go_sem,D]);have h8:rd 8 f=ay (s:Int):=(b 8 ag ag ag).trans (by simp only[go_sem,eY]);have a1:rd 14 f=ay ((l%4294967296:Nat):Int):=(b 14 ag ag ag).trans (by simp only[go_sem,rD]);have a2:rd 15 f=ay (c:Int):=(b 15 ag ag ag).trans (by simp only[go_sem,rE]);have a3:rd 17 f=ay (w:Int):=(b 17 ag ag ag).trans (by simp only[go_sem]);clear b;obtain⟨e,G⟩:∃Q,Q=(w*4294967296+l%4294967296)/Y:=⟨_,rfl⟩;obtain⟨x,A⟩:∃w',w'=(w*4294967296+l%4294967296)%Y:=⟨_,rfl⟩;have o:=jt (w*4294967296+l%4294967296) Y;have d4:x<Y:=by rw[A];exact eX _ aa
 rw[←G]at k g o;rw[←A]at j o;clear G A;have du:e<4294967296:=by
  refine tF fun h=>?_
  have:=fE Y h;generalize Y*e=z at*
  omega
 have m1:aB .u64 ((w:Int)*4294967296)=((w*4294967296%18446744073709551616:Nat):Int):=by rw[hL];omega
 have m2:aB .u64 (((w*4294967296%18446744073709551616:Nat):Int)+((l%4294967296:Nat):Int))=(((w*4294967296+l%4294967296)%18446744073709551616:Nat):Int):=by rw[hL];omega
 obtain⟨p2,T⟩:∃p,p=Y*e:=⟨_,rfl⟩;rw[←T]at o;have ci:aB .u64 ((e:Int)*(Y:Int))=((p2%18446744073709551616:Nat):Int):=by rw[←fY,b3,←T,hL];omega
 have co:aB .u64 ((((w*4294967296+l%4294967296)%18446744073709551616:Nat):Int)-((p2%18446744073709551616:Nat):Int))=(x:Int):=by rw[hL];omega
 have cp:aB .u64 ((c:Int)*4294967296)=((c*4294967296:Nat):Int):=by rw[bV _ aa];omega
 have cs:aB .u64 (((c*4294967296:Nat):Int)+(e:Int))=((c*4294967296+e:Nat):Int):=by rw[bV _ aa];omega
 have ca:x/2^s=(hi*18446744073709551616+lo)%y:=by rw[←j,uU _ E]
 rw[fF];simp(disch:=assumption)only[go_sem,aci,h2,h8,a1,a2,a3,k,O,mS,m1,m2,ci,co,cp,cs,ca,←g]
theorem Im(b:0<u)(c:a<u)(d:h<18446744073709551616):(a*18446744073709551616+h)/u<18446744073709551616:=by
 rw[q8 b];have:(a+1)*18446744073709551616≤u*18446744073709551616:=ee _ c;rw[b3 u]at this;omega
theorem Il{b Q V:Nat}(c:u*L+b=a*18446744073709551616+h)(d:Q*u+a=V):(L+18446744073709551616*Q)*u+b=h+18446744073709551616*V:=by
 rw[←d,eu,cI,cr];rw[b3 u]at c;omega
theorem apq(a:List Nat)(d:Nat)(s:W.az a)(f:0<d∧d<18446744073709551616)(x:a.length<4294967295):aS 255 [bl a,ay (d:Int)] (ay ((W.val a%d:Nat):Int)):=by
 refine cM (.cons (dW _) (.cons (.int _ _) .nil)) (.int _ _) (aT ak2 ?_);simp(disch:=omega)only[go_sem,d255,aaQ,aaP,aI];refine bK (fun k b p=>∃(j r:Nat) (Q:Nat),rd 0 b=bl a∧rd 1 b=ay (d:Int)∧rd 5 b=ay (r:Int)∧rd 6 b=ah ((j:Int)-1)∧k=j∧j≤a.length∧r<d∧Q*d+r=W.val (a.drop j)) a.length ⟨a.length,0,0,?_,?_,?_,?_,rfl,aF _,f.1,by simp[W.val]⟩ ?_
 iterate 2 simp only[go_sem]
 ·simp only[go_sem];rfl
 ·simp only[go_sem]
 rintro j b p ⟨_,r,Q,h,l,m,c,rfl,w,o,g⟩;rw[aaN];cases j with
 |zero=>
  simp(disch:=omega)only[go_sem,aaO,m,c,dt];rw[List.drop_zero]at g;rw[←g,b3,Nat.mul_add_mod,kf o]
 |succ i=>
  have t:i<a.length:=aa;have u:=s.getD i;have hi:(((i+1:Nat):Int)-1).toNat=i:=aa;have n:=eX (r*18446744073709551616+a.getD i 0) f.1;have e:=jt (r*18446744073709551616+a.getD i 0) d;simp(disch:=omega)only[go_sem,aaM,h,l,m,c,df,gU,hi,dY];refine use (A8 r (a.getD i 0) d o u f.2) ?_;simp(disch:=omega)only[go_sem,aaL,c,aI];generalize(r*18446744073709551616+a.getD i 0)/d=q at e
  generalize(r*18446744073709551616+a.getD i 0)%d=v at n e⊢
  refine⟨i,aa,i,v,q+18446744073709551616*Q,?_,?_,?_,?_,rfl,aa,n,?_⟩
  iterate 3 simp only[go_sem,h,l]
  ·simp only[go_sem];congr 1;omega
  ·rw[W.uG t,Il e g]
theorem HC(i v:Nat)(a:List Nat):(aW (i+1) 0++a).set i v=aW i 0++v::a:=by
 rw[List.replicate_succ',fl,List.set_append_right _ _ aE];simp
theorem af6(a:List Nat)(d:Nat)(z:W.az a)(e:0<d∧d<18446744073709551616)(F:a.length<4294967295):aS 364 [bl a,ay (d:Int)] (.aA [bl (aq (W.val a/d)),ay ((W.val a%d:Nat):Int)]):=by
 refine fK (.cons (dW _) (.cons (.int _ _) .nil)) (aT alv ?_);simp(disch:=omega)only[go_sem,d364,ady,adx,adw,aI,iI,oG];refine bK (fun k c p=>∃(j r:Nat) (b:List Nat),rd 0 c=bl a∧rd 1 c=ay (d:Int)∧rd 6 c=.slice 5 0 a.length (.known a.length)∧rd 7 c=ay (r:Int)∧rd 8 c=ah ((j:Int)-1)∧k=j∧j≤a.length∧W.az b∧b.length=a.length-j∧r<d∧W.val b*d+r=W.val (a.drop j)∧p.get 5=.cells (aM (aW j 0++b)) 0) a.length ⟨a.length,0,[],?_,?_,?_,?_,?_,rfl,aF _,W.az.nil,aE,e.1,by simp[W.val],?_⟩ ?_
 iterate 3 simp only[go_sem]
 ·simp only[go_sem];rfl
 ·simp only[go_sem]
 ·simp only[go_sem];simp
 rintro j c p ⟨_,r,b,s,t,h,u,l,rfl,D,y,hl,g,o,f⟩;rw[adu];cases j with
 |zero=>
  simp(disch:=omega)only[go_sem,adv,h,l,dt];have B:b.length=a.length:=aa;rw[qb,eE]at f;refine jo (qR b aa) f ⟨0,_,_,ec.2 rfl⟩ (.cons (qp f (by rw[af.aK,ao rfl]) B) .nil) ?_;simp(disch:=omega)only[go_sem,u];rw[List.drop_zero]at o;refine iG ?_ (.aA (.cons (dW _) (.cons (.int _ _) .nil)));rw[me y,←o,b3 (W.val b) d,Nat.mul_add_mod,kf g,Nat.mul_add_div e.1,m3 g,cG]
 |succ i=>
  have A:i<a.length:=aa;have x:=z.getD i;have hi:(((i+1:Nat):Int)-1).toNat=i:=aa;have w:=Im e.1 g x;have v:=eX (r*18446744073709551616+a.getD i 0) e.1;have m:=jt (r*18446744073709551616+a.getD i 0) d;have n:=A8 r (a.getD i 0) d g x e.2;generalize(r*18446744073709551616+a.getD i 0)/d=q at w m n
  generalize(r*18446744073709551616+a.getD i 0)%d=C at v m n
  have E:(aM (aW (i+1) 0++b)).length=a.length:=by rw[eS];simp;omega
  simp(disch:=omega)only[go_sem,adt,s,t,h,u,l,df,gU,hi,dY];refine use n ?_;simp(disch:=omega)only[go_sem,ads,l,bW,hi,f,fo,ku,HC,aI];refine⟨i,aa,i,C,q::b,?_,?_,?_,?_,?_,rfl,aa,.mk w y,by simp;omega,v,?_,?_⟩
  iterate 4 simp only[go_sem,s,t,h]
  ·simp only[go_sem];congr 1;omega
  ·rw[W.uG A];exact Il m o
  ·rw[af.aK,ao rfl]
theorem aqI{P z w V X Y:Nat}(c:X+P*h=V+Y*w)(b:z+18446744073709551616*u=a+L*w+h):X+P*z+P*18446744073709551616*u=V+P*a+(Y+P*L)*w:=by
 have e:=congrArg (P* ·) b;simp only[cr,←cI]at e;rw[eu];omega
theorem aqU(e a f g:List Nat)(w n:Nat)(X:W.az a)(hx:W.az g)(K:w<18446744073709551616)(Z:g.length=n)(a1:a.length=n)(ls:(e++a++f).length<1000000)(o b:Nat)(ho:e.length=o)(c:Cap)(H:af)(Q:H.get b=.cells (aM (e++a++f)) 0):
 c5 366 [.slice b o n c,bl g,ay (w:Int)] H fun v j=>∃ds k,v=ay ((k:Nat):Int)∧k<18446744073709551616∧ds.length=n∧W.az ds∧W.val a+18446744073709551616^n*k=W.val ds+W.val g*w∧eI H j b (aM (e++ds++f)):=by
 refine aT alx ?_;simp(disch:=omega)only[go_sem,d366,adH,adG]
 refine bK (fun k F j=>∃(ds:List Nat) (h:Nat),k=n-ds.length∧ds.length≤n∧rd 0 F=.slice b o n c∧rd 1 F=bl g∧rd 2 F=ay (w:Int)∧rd 7 F=ay (h:Int)∧rd 14 F=bl g∧rd 15 F=ah (n:Int)∧rd 16 F=ah (ds.length:Int)∧h<18446744073709551616∧W.az ds∧
  W.val (a.take ds.length)+18446744073709551616^ds.length*h=W.val ds+W.val (g.take ds.length)*w∧eI H j b (aM (e++ds++(a.drop ds.length++f)))) n ⟨[],0,rfl,b4 _,?_,?_,?_,?_,?_,?_,?_,aa,W.az.nil,by simp[W.val],?_⟩ ?_
 iterate 3 simp only[go_sem]
 ·simp only[go_sem];rfl
 iterate 2 simp only[go_sem,Z]
 ·simp only[go_sem];rfl
 ·have:=eI.refl Q;simpa using this
 rintro k F j ⟨ds,h,rfl,hd,D,O,G,I,E,u,x,R,M,A,i⟩;rw[adE];simp only[aV]at ls;by_cases hi:ds.length<n
 ·have L:=hx.getD ds.length;have Y:=X.getD ds.length;have S:=rz (l:=a) (i:=ds.length) aa;rw[S,eL]at i;have T:=i.at;have q:(e++ds).length=o+ds.length:=by rw[aV,ho]
  have aw:o+ds.length<(aM (e++ds++a.getD ds.length 0::(a.drop (ds.length+1)++f))).length:=by rw[eS,aV,q];simp
  have a0:o+ds.length<(e++ds++a.getD ds.length 0::(a.drop (ds.length+1)++f)).length:=by rw[aV,q];simp
  have U:=qs (es:=a.drop (ds.length+1)++f) (e:=a.getD ds.length 0) q;have hp:=xI L K;obtain⟨p,C⟩:∃p,p=g.getD ds.length 0*w:=⟨_,rfl⟩;have J:=B6 _ _ L K;rw[←C]at hp J;obtain⟨d,N⟩:∃s,s=p%18446744073709551616+h:=⟨_,rfl⟩;obtain⟨B,l⟩:∃s,s=(a.getD ds.length 0+18446744073709551616-d%18446744073709551616-0)%18446744073709551616:=⟨_,rfl⟩;obtain⟨z,m⟩:∃z,z=(if d%18446744073709551616+0≤a.getD ds.length 0 then 0 else 1:Nat):=⟨_,rfl⟩;have P:=sub_one Y (show d%18446744073709551616<18446744073709551616 from eX _ ag) (b4 1);rw[←l,←m]at P;have r:=u0 (a:=p%18446744073709551616) (b:=h) (c:=0) aa;rw[cG,←N]at r;have t:=CO (a:=a.getD ds.length 0) (b:=d%18446744073709551616) (c:=0) aa;rw[←l,←m]at t;have a2:z≤1:=by rw[m];split<;>omega
  have ad:B<18446744073709551616:=by rw[l];exact eX _ ag
  clear l m;have V:p/18446744073709551616+d/18446744073709551616+z<18446744073709551616:=aa;rw[jU]at r t;have w1:aB .u64 (((p/18446744073709551616:Nat):Int)+((d/18446744073709551616:Nat):Int))=((p/18446744073709551616+d/18446744073709551616:Nat):Int):=by rw[bV _ aa];omega
  have w2:aB .u64 (((p/18446744073709551616+d/18446744073709551616:Nat):Int)+((z:Nat):Int))=((p/18446744073709551616+d/18446744073709551616+z:Nat):Int):=by rw[bV _ aa];omega
  simp(disch:=omega)only[go_sem,ME,adD,G,E,u,x,dt,gU,bH,dY];refine use J ?_;simp(disch:=omega)only[go_sem,adC,D,I,x,bW,bH,T,dY,U,r,t,w1,w2,fo,ku,mc q,aI];refine⟨n-(ds.length+1),aa,ds++[B],p/18446744073709551616+d/18446744073709551616+z,aE,by simp;omega,?_,?_,?_,?_,?_,?_,?_,V,M.app (.mk ad W.az.nil),?_,?_⟩
  iterate 6 simp only[go_sem,D,O,G,E,u]
  ·simp only[go_sem,aV,gP];rfl
  ·rw[W.fM];simp only[aV,gP,cS,W.val,fy,cG];rw[kQ aa,kQ aa];exact aqI A (by rw[←C];omega)
  ·have:=i.set (aM (e++(ds++[B])++(a.drop (ds.length+1)++f)));simpa using this
 ·have y:ds.length=n:=aa;simp(disch:=omega)only[go_sem,ME,adF,I,u,x,df];rw[y,b8 aa,b8 aa]at A;rw[y,jF aa,eE]at i;exact⟨ds,h,rfl,R,y,M,A,i⟩
theorem FU{b post:List Nat}(c:d.length=a)(e:b.length=u)(hi:h<u):(d++b++post).getD (a+h) 0=b.getD h 0:=by
 subst c e;simp only[cy];rw[fl,tv aa,Nat.add_sub_cancel_left,p8 hi]
theorem amf{P V:Nat}(b:V=h*(a*P)+(L+P*u)):V=(h*a+u)*P+L:=by
 rw[b,eu,cI h,b3 P];omega
theorem ame(f:d.length=a+1)(c:2≤a):W.val d=((d.getD a 0*18446744073709551616+d.getD (a-1) 0)*18446744073709551616+d.getD (a-2) 0)*18446744073709551616^(a-2)+W.val (d.take (a-2)):=by
 have h:=W.vD (l:=d) (n:=a+1) aa aa (fun p b=>by
  rw[cy,m0 aa];rfl)
 have e:=kQ (l:=d) (i:=a-2) aa;rw[(aa:a-2+1=a-1)]at e;rw[(aa:a+1-1=a),(aa:a+1-2=a-1),e]at h;have b:(18446744073709551616:Nat)^(a-1)=18446744073709551616*18446744073709551616^(a-2):=by
  rw[(aa:a-1=a-2+1),cS,b3]
 rw[b]at h;exact amf h
theorem agV{e K w c d l W U V:Nat}(p:V=(u*K+L)*W+e)(o:U=((w*K+c)*K+d)*W+l)(r:e<W)(q:L<K)(m:K≤2*u+2)(j:u≤w)(i:h=K-1)(n:2≤K):(h-1)*V≤U:=by
 have g:V≤(u+1)*K*W:=by
  have a:u*K+L+1≤(u+1)*K:=by rw[eu,iP];omega
  have b:=ee W a;rw[eu (u*K+L),iP]at b;omega
 have f:u*K*K*W≤U:=by
  have a:u*K≤w*K+c:=cH (ee K j) (sg _ _);have b:u*K*K≤(w*K+c)*K+d:=cH (ee K a) (sg _ _);exact cH (ee W b) aa
 refine cH (fE _ g) (cH ?_ f);rw[←cI,←cI];refine ee W (ee K ?_);subst i;obtain⟨k,rfl⟩:∃k,K=k+2:=⟨K-2,aa⟩;rw[(aa:k+2-1-1=k),cr,cr,ef,b3 k];omega
theorem agT{K w d e k W U V:Nat}(m:V=(h*K+u)*W+L)(l:U=((w*K+d)*K+e)*W+k)(f:U<V*K)(o:L<W)(n:u<K):w≤h:=by
 have i:V<(h+1)*(K*W):=by
  have a:h*K+u+1≤(h+1)*K:=by rw[eu,iP];omega
  have b:=ee W a;rw[eu (h*K+u),iP,cI]at b;omega
 have g:w*(K*W)*K≤U:=by
  have a:w*K≤w*K+d:=sg _ _;have b:w*K*K≤(w*K+d)*K+e:=cH (ee K a) (sg _ _);have c:=ee W b;rw[show w*(K*W)*K=w*K*K*W by ac_rfl];omega
 have j:w*(K*W)*K<(h+1)*(K*W)*K:=e_ g (eF f (ee K (hO i)));have:=tE (tE j);omega
theorem agS(O u m dv:List Nat)(n:Nat)(Y:W.az u)(hd:W.az dv)(hn:dv.length=n)(N:u.length=n+1)(h2:2≤n)(ls:(O++u++m).length<1000000)(dq:n<1000000)(dE:9223372036854775808≤dv.getD (n-1) 0)(hlt:W.val u<W.val dv*18446744073709551616)(o b:Nat)(T:O.length=o)(c:Cap)(H:af)(S:H.get b=.cells (aM (O++u++m)) 0):
 c5 365 [.slice b o (n+1) c,bl dv] H fun v z=>∃h,v=ay ((h:Nat):Int)∧h<18446744073709551616∧W.val u/W.val dv≤h∧(h-1)*W.val dv≤W.val u∧z=H:=by
 have B:=W.vD (l:=dv) (n:=n) h2 aa (fun p hp=>by rw[cy,m0 aa];rfl);have j:=ame N h2;have Z:W.val (dv.take (n-2))<18446744073709551616^(n-2):=by
  have:=W.gY (hd.take (n-2));rw[g_ aa]at this;exact this
 have bd:W.val (u.take (n-2))<18446744073709551616^(n-2):=by
  have:=W.gY (Y.take (n-2));rw[g_ aa]at this;exact this
 have b2:=hd.getD (n-1);have G:=hd.getD (n-2);have c1:=Y.getD n;have a1:=Y.getD (n-1);have b':=Y.getD (n-2);have dl:(O++u++m).length=o+(n+1)+m.length:=by rw[aV,aV,T,N]
 have gn:=FU (post:=m) T N (aa:n<n+1);have BD:=FU (post:=m) T N (aa:n-1<n+1);have a6:=FU (post:=m) T N (aa:n-2<n+1);have i1:((n:Int)-1).toNat=n-1:=aa;have i2:((n:Int)-2).toNat=n-2:=aa;generalize O++u++m=L at*
 obtain⟨V,cb⟩:∃V,V=W.val dv:=⟨_,rfl⟩;obtain⟨U,ca⟩:∃V,V=W.val u:=⟨_,rfl⟩;rw[←cb]at B hlt⊢;rw[←ca]at j hlt⊢;generalize a9:dv.getD (n-1) 0=a at*
 generalize a':dv.getD (n-2) 0=s at*
 generalize W.val (dv.take (n-2))=d2 at*
 generalize W.val (u.take (n-2))=d1 at*
 generalize u.getD n 0=w at*
 generalize u.getD (n-1) 0=u1 at*
 generalize u.getD (n-2) 0=u2 at*
 generalize hW:18446744073709551616^(n-2)=c0 at*
 have hw:=agT B j hlt Z G;have db:0<V:=by
  rcases r_ V with e|e
  ·rw[e]at hlt;omega
  ·exact e
 have cp:U/V<18446744073709551616:=uT hlt;have ap:U/V*V≤U:=wG _ _;obtain⟨q,eq⟩:∃q,q=U/V:=⟨_,rfl⟩;rw[←eq]at cp ap⊢;refine aT alw ?_;by_cases K:a≤w
 ·simp(disch:=omega)only[go_sem,d365,Mz,MD,MC,hn,aI,gU,bW,i1,i2,dY,bH,S,gn,a9,a',df];exact⟨trivial,18446744073709551615,rfl,aa,aa,agV B j Z G aa K rfl aa,trivial⟩
 ·have be:w<a:=aa;simp(disch:=omega)only[go_sem,d365,Mz,MD,MC,adB,hn,aI,gU,bW,i1,i2,dY,bH,S,gn,BD,a9,a',dt];refine⟨trivial,?_⟩;refine use (A8 w u1 a be a1 b2) ?_;obtain⟨C,bc⟩:∃t,t=w*18446744073709551616+u1:=⟨_,rfl⟩;rw[←bc]at j⊢;have hl:=W.BP B j bd b' aa ap;have hm:=eX C (aa:0<a);have a8:=jt C a;rw[b3]at a8;have ch:C/a<18446744073709551616:=by
   rw[bc];exact Im aa be a1
  simp(disch:=omega)only[go_sem,adA];refine bK (fun k y z=>∃r:Nat,rd 0 y=.slice b o (n+1) c∧rd 5 y=ah (n:Int)∧rd 6 y=ay (a:Int)∧rd 7 y=ay (s:Int)∧rd 8 y=ay (k:Int)∧rd 9 y=ay (r:Int)∧C=k*a+r∧q≤k∧r<18446744073709551616∧k<18446744073709551616∧z=H) (C/a) ⟨C%a,?_,?_,?_,?_,?_,?_,a8.symm,hl,aa,ch,rfl⟩ ?_
  iterate 6 simp only[go_sem]
  rintro h y z ⟨r,P,R,f6,D,i,E,ht,hq,hr,hh,rfl⟩;rw[adz];have F:=B6 h s hh G;have ci:=xI hh G;have aw:h*s≤r*18446744073709551616+u2→(h-1)*V≤U:=fun K=>W.BR B j Z aa ht hh K
  have l:r*18446744073709551616+u2<h*s→q<h:=fun K=>W.BQ B j bd ap ht K
  have next:q<h→C=(h-1)*a+(r+a):=fun hlt=>by
   obtain⟨g,rfl⟩:∃g,h=g+1:=⟨h-1,aa⟩;rw[ht,eu,iP,q7];omega
  have bs:q<h→18446744073709551616≤r+a→(h-1-1)*V≤U:=fun hlt dk=>by
   refine W.BR B j Z aa (next hlt) aa ?_
   have:=xI (x:=h-1) (y:=s) aa G;omega
  obtain⟨p,a2⟩:∃p,p=h*s:=⟨_,rfl⟩;rw[←a2]at F ci aw l;clear a2;have cs:q<h→aB .u64 ((h:Int)-1)=((h-1:Nat):Int):=fun hlt=>by rw[bV _ aa];omega
  have bv:r*18446744073709551616+u2<p→∀f:Fr,rd 0 f=.slice b o (n+1) c→rd 5 f=ah (n:Int)→rd 6 f=ay (a:Int)→rd 7 f=ay (s:Int)→rd 8 f=ay (h:Int)→rd 9 f=ay (r:Int)→
   ∀Q:X→Fr→af→Prop,(∀d,rd 4 d=ay ((h-1:Nat):Int)→18446744073709551616≤r+a→Q .ret d z)→(∀d,rd 0 d=.slice b o (n+1) c→rd 5 d=ah (n:Int)→rd 6 d=ay (a:Int)→rd 7 d=ay (s:Int)→rd 8 d=ay ((h-1:Nat):Int)→rd 9 d=ay ((r+a:Nat):Int)→r+a<18446744073709551616→Q .norm d z)→
   bw (pc 365 3) Q f z:=by
   intro hlt f I J A bh eY cW Q ce cf;have b1:=cs (l hlt);by_cases M:18446744073709551616≤r+a
   ·have ws:aB .u64 ((r:Int)+(a:Int))=((r+a-18446744073709551616:Nat):Int):=by rw[hL];omega
    simp(disch:=omega)only[go_sem,MB,MA,My,Mx,A,eY,cW,b1,ws,dt];refine ce _ ?_ M;simp only[go_sem]
   ·have ws:aB .u64 ((r:Int)+(a:Int))=((r+a:Nat):Int):=by rw[bV _ aa];omega
    simp(disch:=omega)only[go_sem,MB,MA,My,Mx,A,eY,cW,b1,ws,df];refine cf _ ?_ ?_ ?_ ?_ ?_ ?_ aa
    iterate 6 simp only[go_sem,I,J,A,bh]
  have co:=jt p 18446744073709551616;obtain⟨ph,a3⟩:∃x,x=p/18446744073709551616:=⟨_,rfl⟩;obtain⟨pl,ad⟩:∃x,x=p%18446744073709551616:=⟨_,rfl⟩;rw[←a3,←ad]at co F;have du:pl<18446744073709551616:=by rw[ad];exact eX _ ag
  clear a3 ad;by_cases c2:ph<r
  ·simp(disch:=omega)only[go_sem,D,i];refine use F ?_;simp(disch:=omega)only[go_sem,A5,i,E,dt];exact⟨h,rfl,hh,hq,aw aa,trivial⟩
  ·by_cases c':ph=r
   ·by_cases da:u2<pl
    ·simp(disch:=omega)only[go_sem,D,i];refine use F ?_;simp(disch:=omega)only[go_sem,A5,P,R,E,dt,df,aI,bW,i2,S,dY,a6];refine bv aa _ ?_ ?_ ?_ ?_ ?_ ?_ _ ?_ ?_
     iterate 6 simp only[go_sem,P,R,f6,D,i,E]
     ·intro d g4 M;simp only[go_sem,g4];exact⟨h-1,rfl,aa,by have:=l aa;omega,bs (l aa) M,trivial⟩
     ·intro d I J A bh eY cW am;simp only[go_sem];have FY:=l aa;exact⟨h-1,aa,r+a,I,J,A,bh,eY,cW,next FY,aa,am,aa,rfl⟩
    ·simp(disch:=omega)only[go_sem,D,i];refine use F ?_;simp(disch:=omega)only[go_sem,A5,P,R,i,E,dt,df,aI,bW,i2,S,dY,a6];exact⟨h,rfl,hh,hq,aw aa,trivial⟩
   ·simp(disch:=omega)only[go_sem,D,i];refine use F ?_;simp(disch:=omega)only[go_sem,A5,E,df];refine bv aa _ ?_ ?_ ?_ ?_ ?_ ?_ _ ?_ ?_
    iterate 6 simp only[go_sem,P,R,f6,D,i,E]
    ·intro d g4 M;simp only[go_sem,g4];exact⟨h-1,rfl,aa,by have:=l aa;omega,bs (l aa) M,trivial⟩
    ·intro d I J A bh eY cW am;simp only[go_sem];have FY:=l aa;exact⟨h-1,aa,r+a,I,J,A,bh,eY,cW,next FY,aa,am,aa,rfl⟩
theorem Nq{P ds V U:Nat}(d:U=a+P*h)(f:a+P*u=ds+V*L)(e:ds<P)(c:h<u):U<L*V:=by
 have b:P*(h+1)≤P*u:=fE _ c;rw[cr,ef]at b;rw[b3 L];omega
theorem agr{P ds V U b c:Nat}(m:U=a+P*h)(k:a+P*u=ds+V*L)(s:ds<P)(t:h<u)(o:b+P*c=ds+V)(z:b<P)(p:c≤1)(y:V≤P)(n:0<V)(i:(L-1)*V≤U):u=h+1∧c=1∧L-1=U/V∧b=U%V:=by
 have f:=Nq m k s t;have hh:0<L:=by
  rcases r_ L with e|e
  ·rw[e,jg]at f;omega
  ·exact e
 obtain⟨g,rfl⟩:∃g,L=g+1:=⟨L-1,aa⟩;rw[q7]at i⊢;have j:U/V=g:=Nat.div_eq_of_lt_le i f;have v:=jt U V;have A:=eX U n;rw[j]at v;rw[cr,ef]at k;obtain⟨d,rfl⟩:∃d,u=h+1+d:=⟨u-h-1,aa⟩;have l:P*(h+1+d)=P*h+P+P*d:=by rw[cr,cr,ef]
 have r:d=0:=by
  rcases r_ d with e|e
  ·exact e
  ·have w:P*1≤P*d:=fE _ e;have x:P*c≤P*1:=fE _ p;omega
 subst r;rw[fy]at l;have q:c=1:=by
  rcases r_ c with e|e
  ·rw[e,fy]at o;omega
  ·omega
 subst q;exact⟨rfl,rfl,j.symm,aa⟩
theorem agu{P ds V U:Nat}(f:U=a+P*h)(n:a+P*u=ds+V*L)(l:u≤h)(k:V≤P)(c:0<V)(j:U/V≤L):h=u∧L=U/V∧ds=U%V:=by
 obtain⟨d,rfl⟩:∃d,h=u+d:=⟨h-u,aa⟩;rw[cr]at f;have hh:L*V≤U:=by rw[b3];omega
 have b:L=U/V:=Nat.le_antisymm ((tD c).2 hh) j;have i:=jt U V;have m:=eX U c;rw[←b]at i;have g:d=0:=by
  rcases r_ d with e|e
  ·exact e
  ·have b:P*1≤P*d:=fE _ e;omega
 subst g;exact⟨rfl,b,aa⟩
theorem Ts(d a e dv:List Nat)(n:Nat)(Z:W.az a)(S:W.az dv)(aw:a.length=n)(hn:dv.length=n)(ls:(d++a++e).length<1000000)(o b C:Nat)(ho:d.length=o)(Y:(d++a++e).length=C)(c:Cap)(F:Fr)(H:af)(R:X→Fr→af→Prop)(P:H.get b=.cells (aM (d++a++e)) 0)
 (G:rd 11 F=.slice b 0 C c) (L:rd 13 F=ah (o:Int)) (M:rd 17 F=ay 0) (I:rd 113 F=bl dv) (J:rd 114 F=ah (n:Int)) (K:rd 115 F=ah 0)
 (Q:∀m v i k,(∀t,t<17→rd t m=rd t F)→rd 17 m=ay ((k:Nat):Int)→k≤1→i.length=n→W.az i→W.val i+18446744073709551616^n*k=W.val a+W.val dv→eI H v b (aM (d++i++e))→R (.exit 3) m v):bw (.loop (pc 310 3)) R F H:=by
 refine bK (fun k f w=>∃(ds:List Nat) (g:Nat),k=n-ds.length∧ds.length≤n∧(∀t,t<17→rd t f=rd t F)∧rd 17 f=ay (g:Int)∧rd 113 f=bl dv∧rd 114 f=ah (n:Int)∧rd 115 f=ah (ds.length:Int)∧g≤1∧W.az ds∧
  W.val ds+18446744073709551616^ds.length*g=W.val (a.take ds.length)+W.val (dv.take ds.length)∧eI H w b (aM (d++ds++(a.drop ds.length++e)))) n ⟨[],0,rfl,b4 _,fun _ _=>rfl,M,I,J,K,aa,W.az.nil,by simp[W.val],by simpa using eI.refl P⟩ ?_
 rintro k f w ⟨ds,g,rfl,al,j,A,y,p,z,B,D,u,h⟩;have N:=(j 11 ag).trans G;have O:=(j 13 ag).trans L;rw[ab9];simp only[aV]at ls Y;by_cases hi:ds.length<n
 ·have a1:=S.getD ds.length;have ar:=Z.getD ds.length;have T:=rz (l:=a) (i:=ds.length) aa;rw[T,eL]at h;have U:=h.at;have l:(d++ds).length=o+ds.length:=by rw[aV,ho]
  have am:o+ds.length<(aM (d++ds++a.getD ds.length 0::(a.drop (ds.length+1)++e))).length:=by rw[eS,aV,l];simp
  have ap:o+ds.length<(d++ds++a.getD ds.length 0::(a.drop (ds.length+1)++e)).length:=by rw[aV,l];simp
  have V:=qs (es:=a.drop (ds.length+1)++e) (e:=a.getD ds.length 0) l;have ac:((o:Int)+(ds.length:Int)).toNat=o+ds.length:=aa;have ad:aB .i64 ((o:Int)+(ds.length:Int))=(o:Int)+(ds.length:Int):=aI _ aa;obtain⟨s,E⟩:∃s,s=a.getD ds.length 0+dv.getD ds.length 0+g:=⟨_,rfl⟩;have x:=u0 (a:=a.getD ds.length 0) (b:=dv.getD ds.length 0) B;rw[←E]at x;simp(disch:=omega)only[go_sem,Ma,ab8,ab7,N,O,A,y,p,z,dt,gU,bH,dY,bW,ac,ad,U,V,x,fo,ku,mc l,aI];refine⟨n-(ds.length+1),aa,ds++[s%18446744073709551616],s/18446744073709551616,aE,by simp;omega,fun t r=>?_,?_,?_,?_,?_,aa,D.app (.mk aa W.az.nil),?_,?_⟩
  ·simp(disch:=omega)only[bU];exact j t r
  iterate 3 simp only[go_sem,y,p]
  ·simp only[go_sem,aV,gP];rfl
  ·rw[W.fM];simp only[aV,gP,cS,W.val,fy,cG];rw[kQ aa,kQ aa];exact D6 u aa
  ·have:=h.set (aM (d++(ds++[s%18446744073709551616])++(a.drop (ds.length+1)++e)));simpa using this
 ·have q:ds.length=n:=aa;simp(disch:=omega)only[go_sem,Ma,p,z,df];rw[q,b8 aa,b8 aa]at u;rw[q,jF aa,eE]at h;refine Q _ _ ds g (fun t r=>?_) ?_ B q D u h
  ·simp(disch:=omega)only[bU];exact j t r
  ·simp only[go_sem,A]
theorem ase{V:Nat}(c:a<18446744073709551616)(b:h<V):a+18446744073709551616*h<V*18446744073709551616:=by
 have:=ee 18446744073709551616 (show h+1≤V from b);rw[eu]at this;omega
theorem Nj{Q V X:Nat}(c:V*u+L=a+18446744073709551616*h)(b:Q*V+h=X):(u+18446744073709551616*Q)*V+L=a+18446744073709551616*X:=by
 rw[←b,eu,cI,cr,b3 u];omega
set_option maxHeartbeats 2000000 in
theorem Fj(d dv:List Nat)(n a m:Nat)(co:W.az d)(T:W.az dv)(hX:d.length=a+1)(G:dv.length=n)(h2:2≤n)(hm:a+1-n=m)(fv:n≤a)(hl:a<900000)(e1:9223372036854775808≤dv.getD (n-1) 0)(f j:Nat)(hb:f≠j)(F:Fr)(H:af)(R:X→Fr→af→Prop)
 (dd:rd 8 F=ah (n:Int)) (c2:rd 10 F=bl dv) (c':rd 11 F=.slice f 0 (a+1) (.known (a+1))) (da:rd 12 F=.slice j 0 m (.known m)) (db:rd 13 F=ah ((m:Int)-1)) (d4:W.val (d.drop m)<W.val dv) (d0:H.get f=.cells (aM d) 0) (d1:H.get j=.cells (aM (aW m 0)) 0)
 (hR:∀F' K r b,(∀t,t<13→rd t F'=rd t F)→r.length=n→W.az r→W.az b→b.length=m→W.val b*W.val dv+W.val r=W.val d→W.val r<W.val dv→K.get f=.cells (aM (r++aW m 0)) 0→K.get j=.cells (aM b) 0→K.next=H.next→R (.exit 1) F' K):bw (.loop (pc 310 6)) R F H:=by
 have bs:W.val dv<18446744073709551616^n:=by have:=W.gY T;rw[G]at this;exact this
 have P:0<W.val dv:=aa
 refine bK (fun k V L=>∃(r b:List Nat),k≤m∧(∀t,t<13→rd t V=rd t F)∧rd 13 V=ah ((k:Int)-1)∧r.length=n∧W.az r∧W.az b∧b.length=m-k∧W.val b*W.val dv+W.val r=W.val (d.drop k)∧W.val r<W.val dv∧L.get f=.cells (aM (d.take k++r++aW (m-k) 0)) 0∧L.get j=.cells (aM (aW k 0++b)) 0∧L.next=H.next) m
  ⟨d.drop m,[],aF _,fun _ _=>rfl,db,by rw[g5];omega,co.drop _,W.az.nil,aE,by simp[W.val],d4,by rw[m6,qb,fN,qc];exact d0,by rw[fN];exact d1,rfl⟩ ?_
 rintro k V L ⟨r,b,hk,q,o,hr,c0,a',ev,hv,cf,l,S,cb⟩;have C:=(q 8 ag).trans dd;have Z:=(q 10 ag).trans c2;have v:=(q 11 ag).trans c';have bj:=(q 12 ag).trans da;rw[ab'];cases k with
 |zero=>
  simp(disch:=omega)only[go_sem,o];rw[q5,eE,Nat.sub_zero]at l;rw[qb,eE]at S;refine hR _ _ r b (fun t s=>?_) hr c0 a' ev hv cf l S cb;simp(disch:=omega)only[bU];exact q t s
 |succ i=>
  have ca:i<d.length:=aa;have a3:List.take (i+1) d=d.take i++[d.getD i 0]:=v9 ca;have hx:=co.getD i;have am:=W.uG ca;obtain⟨x,ex⟩:∃x,x=d.getD i 0:=⟨_,rfl⟩;rw[←ex]at a3 hx am;have y:(d.take i).length=i:=g_ aa;obtain⟨g,Y⟩:∃p,p=d.take i:=⟨_,rfl⟩;rw[←Y]at a3 y;obtain⟨z,dl⟩:∃z,z=m-(i+1):=⟨_,rfl⟩;rw[←dl]at l;have bo:W.val (x::r)<W.val dv*18446744073709551616:=ase hx cf;have U:W.az (x::r):=.mk hx c0;have ch:(x::r).length=n+1:=by simp[hr]
  have ed:g++[x]++r++aW z 0=g++(x::r)++aW z 0:=aE;rw[a3,ed]at l;have ac:W.val (x::r)=x+18446744073709551616*W.val r:=rfl;obtain⟨u,dk⟩:∃u,u=x::r:=⟨_,rfl⟩;rw[←dk]at l bo U ch ac;have a2:u=u.take n++[u.getD n 0]:=by
   rw[←v9 aa,b8 aa]
  have cs:=U.take n;have a0:(u.take n).length=n:=g_ aa;have s:=U.getD n;obtain⟨a8,em⟩:∃p,p=u.take n:=⟨_,rfl⟩;obtain⟨t,et⟩:∃p,p=u.getD n 0:=⟨_,rfl⟩;rw[←em,←et]at a2;rw[←em]at cs a0;rw[←et]at s;have ab:W.val u=W.val a8+18446744073709551616^n*t:=by
   rw[a2,W.fM,a0];simp[W.val]
  have eh:g++u++aW z 0=g++a8++t::aW z 0:=by rw[a2];simp
  have d9:(((i+1:Nat):Int)-1)=(i:Int):=aa;rw[d9]at o;have J:aB .i64 ((i:Int)+(n:Int))=(i:Int)+(n:Int):=aI _ aa;have e':aB .i64 ((i:Int)+(n:Int)+1)=(i:Int)+(n:Int)+1:=aI _ aa;have eQ:slice3 (j_ 1) true true false [.slice f 0 (a+1) (.known (a+1)),ah (i:Int),ah ((i:Int)+(n:Int)+1)]=some (.val (.slice f i (n+1) (.known (a+1-i)))):=by
   rw[CF aa];congr 3<;>omega
  have e0:slice3 (j_ 1) true true false [.slice f 0 (a+1) (.known (a+1)),ah (i:Int),ah ((i:Int)+(n:Int))]=some (.val (.slice f i n (.known (a+1-i)))):=by
   rw[CF aa];congr 3<;>omega
  simp(disch:=omega)only[go_sem,ab_,C,Z,v,o,df,J,e',eQ];refine(agS g u (aW z 0) dv n U T G ch h2 (by simp;omega) aa e1 bo i f y _ _ l).mono ?_;rintro _ _ ⟨h,rfl,b',es,d8,rfl⟩;simp(disch:=omega)only[go_sem,C,Z,v,o,J,e0];rw[eh]at l;refine(aqU g a8 (t::aW z 0) dv h n cs T b' G a0 (by simp;omega) i f y _ _ l).mono ?_;rintro _ H2 ⟨ds,k,rfl,fn,Q,a9,a6,N⟩;have bv:W.val ds<18446744073709551616^n:=by have:=W.gY a9;rw[Q]at this;exact this
  have ar:=N.at;have aw:H2.get j=.cells (aM (aW (i+1) 0++b)) 0:=by rw[N.get,aj (fun e=>hb e.symm)];exact S
  have cd:H2.next=H.next:=N.next.trans cb
  clear N S l;have D:(g++ds).length=i+n:=by rw[aV,y,Q]
  have fp:i+n<(aM (g++ds++t::aW z 0)).length:=by rw[eS,aV,D];simp
  have fr:i+n<(g++ds++t::aW z 0).length:=by rw[aV,D];simp
  have b1:=qs (es:=aW z 0) (e:=t) D;have a4:((i:Int)+(n:Int)).toNat=i+n:=aa;have fw:(aM (aW (i+1) 0++b)).length=m:=by rw[eS];simp;omega
  have ae:j≠f:=fun e=>hb e.symm
  have ci:m-i=z+1:=aa;by_cases hc:t<k
  ·have wt:aB .u64 ((t:Int)-(k:Int))=((t+18446744073709551616-k:Nat):Int):=by rw[hL];omega
   have fs:((t:Nat):Int)<(k:Int):=aa;have d3:=Nq ab a6 bv hc;have fg:0<h:=by
    rcases r_ h with e|e
    ·rw[e,jg]at d3;omega
    ·exact e
   have fa:aB .u64 ((h:Int)-1)=((h-1:Nat):Int):=by rw[bV _ aa];omega
   simp(disch:=omega)only[go_sem,C,Z,v,o,J,a4,ar,b1,dY,bW,wt,fo,ku,mc D,dt,fa];refine Ts g ds ((t+18446744073709551616-k)::aW z 0) dv n a9 T Q G (by simp;omega) i f (a+1) y (by simp;omega) (.known (a+1)) _ _ _ ?_ ?_ ?_ ?_ ?_ ?_ ?_ ?_
   ·rw[af.aK,ao rfl]
   iterate 6 simp only[go_sem,v,o,G]
   intro A H3 B c w ahO d5 ap cp e2 O;have d6:W.val B<18446744073709551616^n:=by have:=W.gY cp;rw[ap]at this;exact this
   obtain⟨d',fd,hq,I⟩:=agr ab a6 bv hc e2 d6 d5 (hO bs) P d8;have b0:=O.at;have d7:H3.get j=.cells (aM (aW (i+1) 0++b)) 0:=by rw[O.get,aj ae,af.aK,aj hb];exact aw
   have el:H3.next=H.next:=O.next.trans cd
   clear O ar aw;have h8:rd 8 A=ah (n:Int):=(w 8 ag).trans (by simp only[go_sem,C]);have dp:rd 11 A=.slice f 0 (a+1) (.known (a+1)):=(w 11 ag).trans (by simp only[go_sem,v]);have dq:rd 12 A=.slice j 0 m (.known m):=(w 12 ag).trans (by simp only[go_sem,bj]);have du:rd 13 A=ah (i:Int):=(w 13 ag).trans (by simp only[go_sem,o]);have dC:rd 14 A=ay ((h-1:Nat):Int):=(w 14 ag).trans (by simp only[go_sem]);have M:(g++B).length=i+n:=by rw[aV,y,ap]
   have ea:i+n<(aM (g++B++(t+18446744073709551616-k)::aW z 0)).length:=by rw[eS,aV,M];simp
   have eb:i+n<(g++B++(t+18446744073709551616-k)::aW z 0).length:=by rw[aV,M];simp
   have b2:=qs (es:=aW z 0) (e:=t+18446744073709551616-k) M;have c1:aB .u64 (((t+18446744073709551616-k:Nat):Int)+(c:Int))=((0:Nat):Int):=by rw[hL];omega
   have eq:h-1<18446744073709551616:=aa;rw[d']at b2 ea eb b0 c1;rw[fF];simp(disch:=omega)only[go_sem,Mb,h8,dp,dq,du,dC,ahO,J,a4,b0,d7,b2,dY,bW,c1,fo,ku,mc M,aj,bH,HC,aI];have E:=jt (W.val u) (W.val dv);rw[←hq,←I,ac]at E;refine⟨i,aa,B,(h-1)::b,aa,fun t s=>?_,?_,ap,cp,.mk eq a',by simp;omega,?_,by rw[I];exact eX _ P,?_,?_,el⟩
   ·simp(disch:=omega)only[bU];refine(w t aa).trans ?_;simp(disch:=omega)only[bU];exact q t s
   ·simp only[go_sem]
   ·rw[am,←hv];exact Nj E rfl
   ·rw[af.aK,aj ae,af.aK,ao rfl,Y,ci,qa]
   ·rw[af.aK,ao rfl]
  ·obtain⟨fx,hq,I⟩:=agu ab a6 (jW hc) (hO bs) P es;have wt:aB .u64 ((t:Int)-(k:Int))=((0:Nat):Int):=by rw[hL];omega
   simp(disch:=omega)only[go_sem,Mb,C,v,bj,o,J,a4,ar,aw,b1,dY,bW,wt,fo,ku,mc D,df,aj,bH,HC,aI];have E:=jt (W.val u) (W.val dv);rw[←hq,←I,ac]at E;refine⟨i,aa,ds,h::b,aa,fun t s=>?_,?_,Q,a9,.mk b' a',by simp;omega,?_,by rw[I];exact eX _ P,?_,?_,cd⟩
   ·simp(disch:=omega)only[bU];exact q t s
   ·simp only[go_sem]
   ·rw[am,←hv];exact Nj E rfl
   ·rw[af.aK,aj ae,af.aK,ao rfl,Y,ci,qa]
   ·rw[af.aK,ao rfl]
theorem mV(n:Nat)(c:n≠0):∃r,n=(aq n).getD ((aq n).length-1) 0*18446744073709551616^((aq n).length-1)+r∧r<18446744073709551616^((aq n).length-1):=by
 have hl:=(ji n).2 c;have h:=W.qT (l:=aq n) (i:=(aq n).length-1) aa;rw[gu]at h;have b:(aq n).drop ((aq n).length-1+1)=[]:=jF aa;rw[b]at h;have a:=W.gY ((gz n).take ((aq n).length-1));rw[g_ aa]at a;refine⟨_,?_,a⟩;simp only[W.val,fy,cG]at h;rw[b3 _ (18446744073709551616^_),js];exact h
theorem CT(n:Nat)(a:n≠0):(aq n).getD ((aq n).length-1) 0≠0:=by
 have hl:=(ji n).2 a;intro h;have d:=Bd n;have c:=W.aN.pos d (fun e=>by rw[e]at hl;exact absurd hl ag);rw[gu]at c;obtain⟨r,b,f⟩:=mV n a;rw[h,jg]at b;omega
theorem Ca(f:a≠0)(q:h≤63)(c:(aq a).getD ((aq a).length-1) 0*2^h<18446744073709551616):(aq (a*2^h)).length=(aq a).length:=by
 obtain⟨r,n,o⟩:=mV a f;have hl:=(ji a).2 f;have d:0<2^h:=fR ag;have p:=lT (m:=a) (n:=a*2^h) (Nat.le_mul_of_pos_right a d);have s:(aq (a*2^h)).length≤(aq a).length:=by
  refine vk ?_;generalize(aq a).getD ((aq a).length-1) 0=t at*
  have l:(18446744073709551616:Nat)^(aq a).length=18446744073709551616*18446744073709551616^((aq a).length-1):=by
   rw[(aa:(aq a).length=(aq a).length-1+1),cS,b3,q7]
  rw[l];generalize(18446744073709551616:Nat)^((aq a).length-1)=P at*
  have b:=sV (s:=h) aa;have m:t+1≤2^(64-h):=by
   rw[b]at c;exact tE c
  have g:(t+1)*2^h≤18446744073709551616:=by
   have e:=ee (2^h) m;rw[←b]at e;exact e
  have i:a<(t+1)*P:=by rw[eu,iP];omega
  have j:a*2^h<(t+1)*P*2^h:=og i d;have k:(t+1)*P*2^h≤18446744073709551616*P:=by
   rw[uW];exact ee P g
  exact eF j k
 omega
theorem zz(c:h≠0)(k:u≤63)(g:9223372036854775808≤(aq h).getD ((aq h).length-1) 0*2^u)(f:(aq h).getD ((aq h).length-1) 0*2^u<18446744073709551616):9223372036854775808≤(aq (h*2^u)).getD ((aq h).length-1) 0:=by
 have hl:=Ca c k f;have o:0<2^u:=fR ag;have j:h*2^u≠0:=uV c aa;obtain⟨r,m,n⟩:=mV h c;obtain⟨p,d,e⟩:=mV (h*2^u) j;rw[hl]at d e;generalize(aq h).getD ((aq h).length-1) 0=t at*
 generalize(aq (h*2^u)).getD ((aq h).length-1) 0=l at*
 generalize(18446744073709551616:Nat)^((aq h).length-1)=P at*
 refine cH g (jW fun i=>?_);have a:(l+1)*P≤t*2^u*P:=ee P i;rw[eu,iP]at a;have b:t*P*2^u≤h*2^u:=ee _ aa;rw[uW]at b;omega
theorem HN{X P V:Nat}(d:X<P*a*h)(e:X=u+P*L)(c:a*h≤V):L<V:=by
 have b:P*L<P*(a*h):=by rw[←cI];omega
 exact eF (Nat.lt_of_mul_lt_mul_left b) c
theorem af4(m n:Nat)(g:n≠0)(lm:(aq m).length<100000)(ln:(aq n).length<100000):aS 310 [bl (aq m),bl (aq n)] (.aA [bl (aq (m/n)),bl (aq (m%n))]):=by
 refine fK (.cons (dW _) (.cons (dW _) .nil)) (aT F8 ?_);have a4:=(ji n).2 g;simp(disch:=omega)only[go_sem,d310,EX];refine use (ve m n aa aa) ?_;by_cases p:m<n
 ·rw[nQ aa];simp(disch:=omega)only[go_sem,dt];rw[m3 p,kf p,j3];exact⟨_,.aA (.cons .fL (.cons (.same _) .nil)),.aA (.cons (.row 0 .nil) (.cons (dW _) .nil)),rfl⟩
 have bv:¬fm (m:Int) (n:Int)<0:=by
  rcases Nat.lt_or_eq_of_le (jW p)with h|h
  ·rw[nP aa];decide
  ·rw[AQ aa];decide
 by_cases I:(aq n).length=1
 ·have a3:eo none 1 [bl (aq n),ah 0]=some (.val (.dh (aM (aq n)) 0)):=gU ⟨ag,aa⟩;have R:(aq n).getD 0 0=n:=by
   obtain⟨r,F,G⟩:=mV n g;rw[I]at F G;simp only[m6,nL,ef]at F G;omega
  have z:=(gz n).getD 0;rw[R]at z;simp(disch:=omega)only[go_sem,df,dt,a3,dY,R];refine use (af6 (aq m) n (gz m) ⟨aa,z⟩ aa) ?_;simp(disch:=omega)only[go_sem,gu];refine use (Bw (m%n) (qg (eX _ aa) z)) ?_;simp(disch:=omega)only[go_sem];exact iG rfl (.aA (.cons (dW _) (.cons (dW _) .nil)))
 have J:2≤(aq n).length:=aa;have y:(aq n).length≤(aq m).length:=lT (jW p);obtain⟨D,f⟩:∃t,t=(aq n).getD ((aq n).length-1) 0:=⟨_,rfl⟩;have U:=CT n g;have B:=(gz n).getD ((aq n).length-1);rw[←f]at U B;obtain⟨e,N,v⟩:=zo (y:=D) U B;have Q:=zn D B;obtain⟨s,S⟩:∃s,s=64-eP D:=⟨_,rfl⟩;rw[←S]at e N v Q;clear S;have o:0<2^s:=fR ag;have w:=Ca g e (by rw[←f];exact v);have x:=zz g e (by rw[←f];exact N) (by rw[←f];exact v);have a1:aB .u64 ((s:Nat):Int)=(s:Int):=bV _ aa;have V:aB .i64 (((aq n).length:Int)-1)=((aq n).length:Int)-1:=aI _ aa;have T:(((aq n).length:Int)-1).toNat=(aq n).length-1:=aa;obtain⟨c,k⟩:∃l,l=(aq m).length:=⟨_,rfl⟩;obtain⟨l,H⟩:∃l,l=(aq n).length:=⟨_,rfl⟩;rw[←k]at y lm;rw[←H]at a4 ln I J y f w x V T;have K:(aq (m*2^s)).length≤c+1:=by
  refine vk ?_;have a:=nS m;rw[←k]at a;have b:2^s≤18446744073709551616:=by rw[sV (s:=s) aa];exact Nat.le_mul_of_pos_left _ (fR ag)
  rw[cS];exact eF (og a o) (fE _ b)
 simp(disch:=omega)only[go_sem,EW,EV,df,←H,V,gU,T,dY,←f];refine use Q ?_;simp(disch:=omega)only[go_sem,EU,a1];refine use (x1 n s e aa) ?_;have bb:aB .i64 ((c:Int)+1)=(c:Int)+1:=aI _ aa;have ba:((c:Int)+1).toNat=c+1:=aa;simp(disch:=omega)only[go_sem,ET,ES,←k,bb,iI,ba,oG];refine use (x1 m s e aa) ?_;simp(disch:=omega)only[go_sem];refine Bi (cs:=aM (aW (c+1) 0)) (by simp only[go_sem]) K (by rw[eS];simp) ?_;obtain⟨d,i⟩:∃X,X=aq (m*2^s)++aW (c+1-(aq (m*2^s)).length) 0:=⟨_,rfl⟩;have L:aM (aq (m*2^s))++(aM (aW (c+1) 0)).drop (aq (m*2^s)).length=aM d:=by
  rw[i,yq];congr 1;rw[aM,←List.map_drop,List.drop_replicate];rfl
 have bj:W.az d:=by rw[i];exact(gz _).app (uj _)
 have a0:d.length=c+1:=by rw[i];simp;omega
 have M:W.val d=m*2^s:=by rw[i,W.fM,td,gu,fy,cG]
 rw[L];clear L i K;obtain⟨j,ad⟩:∃j,c+1-l=j:=⟨_,rfl⟩;have bc:aB .i64 ((c:Int)-(l:Int))=(j:Int)-1:=by rw[aI _ aa];omega
 have bd:aB .i64 ((j:Int)-1+1)=(j:Int):=by rw[aI _ aa];omega
 simp(disch:=omega)only[go_sem,E0,EZ,←k,bc,bd,iI,oG,bH];have ar:W.val (d.drop j)<W.val (aq (n*2^s)):=by
  have Y:=W.pW d j aa;rw[M]at Y;have a:=nS m;rw[←k,(aa:c=j+(l-1)),gG]at a;have b:=og a o;obtain⟨r,E,_⟩:=mV (n*2^s) (uV g aa);rw[w]at E;refine HN b Y ?_;rw[gu,E];have am:2^s≤9223372036854775808:=cH (gw ag e) ag;have c2:=ee (18446744073709551616^(l-1)) (cH am x);rw[b3];exact cH c2 (sg _ _)
 refine Fj d (aq (n*2^s)) l c j bj (gz _) a0 w J ad y aa x 5 6 ag _ _ _ ?_ ?_ ?_ ?_ ?_ ar ?_ ?_ ?_
 iterate 7 simp only[go_sem]
 intro q H3 r Z u hr bs bo a7 C A a2 O b0;have h9:rd 9 q=ay (s:Int):=(u 9 ag).trans (by simp only[go_sem]);have ae:rd 11 q=.slice 5 0 (c+1) (.known (c+1)):=(u 11 ag).trans (by simp only[go_sem]);have al:rd 12 q=.slice 6 0 j (.known j):=(u 12 ag).trans (by simp only[go_sem]);rw[fF];rw[M,gu]at C;rw[gu]at A;have aw:0<n*2^s:=Nat.mul_pos aa o;have hq:W.val Z=m/n:=by
  rw[←Nat.mul_div_mul_right m n o,←C,b3,Nat.mul_add_div aw,m3 A,cG]
 have a9:W.val r=m%n*2^s:=by
  rw[←si,←C,b3,Nat.mul_add_mod,kf A]
 simp(disch:=omega)only[go_sem,EY,al];refine jo (qR Z aa) O ⟨0,_,_,ec.2 rfl⟩ (.cons (qp O (by rw[af.aK,ao rfl]) a7) .nil) ?_;simp(disch:=omega)only[go_sem,ae];have P:(H3.set 6 .none).get 5=.cells (aM (r++aW j 0)) 0:=by rw[af.aK,aj ag];exact a2
 have a5:(r++aW j 0).length=c+1:=by simp;omega
 refine jo (qR (r++aW j 0) aa) P ⟨0,_,_,ec.2 rfl⟩ (.cons (qp P (by rw[af.aK,ao rfl]) a5) .nil) ?_;have a':W.trim (r++aW j 0)=aq (m%n*2^s):=by
  rw[me (bs.app (uj _)),W.fM,td,fy,cG,a9]
 rw[a',me bo,hq];have a8:(aq (m%n*2^s)).length<100000:=by
  have:=lT (m:=m%n*2^s) (n:=n*2^s) (ee _ (hO (eX _ aa)));omega
 simp(disch:=omega)only[go_sem,h9];refine use (aqc (m%n*2^s) s e a8) ?_;rw[uU _ o];simp(disch:=omega)only[go_sem];exact iG rfl (.aA (.cons (dW _) (.cons (dW _) .nil)))
theorem af7(m n:Nat)(a:n≠0)(b:(aq m).length<80)(c:(aq n).length<80):aS 250 [bl (aq m),bl (aq n)] (.aA [bl (aq (m/n)),bl (aq (m%n))]):=by
 refine cM (.cons (dW _) (.cons (dW _) .nil)) (.aA (.cons (dW _) (.cons (dW _) .nil))) (aT F6 ?_);simp(disch:=omega)only[go_sem,d250,ED,EC,dt];refine use (af4 m n a aa aa) ?_;simp only[go_sem]
theorem CV(l:List Nat):∃a,W.trim l++a=l:=by
 rw[CW l];exact⟨l.drop (W.trim l).length,qc _ _⟩
theorem aqd(n s:Nat)(G:s≤63)(D:n≠0)(ln:(aq n).length<100000)(N:Nat):c5 363 [bl (aq n),ay (s:Int)] (af.zero N) fun v d=>∃A c,v=.slice N 0 (aq (n/2^s)).length c∧N<d.next∧d.get N=.cells (aM (aq (n/2^s)++A)) 0:=by
 refine aT F9 ?_;have o:=gz n;have J:=gu n;have a5:¬(64:Int)=0:=ag;have a0:lO (s:Int) 64=0:=by
  show(((s/64:Nat)):Int)=0;omega
 have a1:mZ (s:Int) 64=(s:Int):=by
  show(((s%64:Nat)):Int)=_;omega
 have w0:aB .u64 (0:Int)=0:=bV _ ag;have w1:aB .i64 (0:Int)=0:=aI _ ag;have wl:aB .u64 (((aq n).length:Nat):Int)=(((aq n).length:Nat):Int):=bV _ aa;have M:=(ji n).2 D;clear D;have ht:((((aq n).length:Nat):Int)-0).toNat=(aq n).length:=aa;simp(disch:=omega)only[go_sem,d363,A4,Mw,Mv,Mu,dt,jK,mC,a0,a1,w0,w1,wl,aI,Int.sub_zero,bH,iI,oG];generalize aq n=x at o J M ln⊢
 obtain⟨y,h⟩:∃y,y=W.shr s x:=⟨_,rfl⟩;have am:y.length=x.length:=by rw[h,W.s6]
 have ar:W.val y=n/2^s:=by rw[h,W.x3 G,J]
 have ap:W.az y:=by rw[h];exact W.vW G o
 have al:∀i,i<x.length→y.getD i 0=x.getD i 0/2^s+(x.getD (i+1) 0%2^s)*2^(64-s):=fun i hi=>by rw[h];exact W.x2 hi
 clear h;have E:ep s (gQ .u64)=s:=ld (aa:s≤64);have X:ep (64-s) (gQ .u64)=64-s:=ld (aa:64-s≤64);have P:aB .u64 ((64:Int)-(s:Int))=((64-s:Nat):Int):=by rw[bV _ aa];omega
 refine bK (fun k a d=>∃i:Nat,k=x.length-i∧i≤x.length∧rd 0 a=bl x∧rd 5 a=ah 0∧rd 6 a=ay (s:Int)∧rd 7 a=.slice N 0 x.length (.known x.length)∧rd 26 a=ah (x.length:Int)∧rd 27 a=ah (i:Int)∧
  eI ((af.zero N).push (.cells (aM (aW x.length 0)) 0)) d N (aM (y.take i++aW (x.length-i) 0))) x.length ⟨0,rfl,b4 _,?_,?_,?_,?_,?_,?_,eI.refl ?_⟩ ?_
 iterate 5 simp only[go_sem]
 ·simp only[go_sem];rfl
 ·simp only[go_sem];rfl
 rintro k a d ⟨i,rfl,hi,j,l,m,f,e,q,b⟩;rw[Ms];by_cases U:i<x.length
 ·have L:=o.getD i;have ba:=o.getD (i+1);obtain⟨r,hr⟩:∃r,x.length-i=r+1:=⟨x.length-i-1,aa⟩;rw[hr,qa (n:=r)]at b;have hl:(y.take i).length=i:=g_ aa;have a7:i<(aM (y.take i++0::aW r 0)).length:=by rw[eS,aV,hl];simp
  have g:=b.at;have H:=fun v=>mc (es:=aW r 0) (e:=0) (v:=v) hl
  have t:=b.set (aM (y.take i++(x.getD i 0/2^s)::aW r 0));have p:=al i U;have B:=Fk (s:=s) aa L;have S:((i:Int)+1).toNat=i+1:=aa;by_cases a6:i+1<x.length
  ·have z:=Rp (e:=x.getD (i+1) 0) (s:=s) aa;have w:=GK (x:=x.getD (i+1) 0) (s:=64-s) aa B;have V:=DC (x:=x.getD (i+1) 0) (s:=64-s) aa B;rw[z,←p]at w V;have Z:((x.getD (i+1) 0:Nat):Int)*((2^(64-s):Nat):Int)=((x.getD (i+1) 0*2^(64-s):Nat):Int):=by rw[fY]
   have K:aB .u64 ((x.getD (i+1) 0*2^(64-s):Nat):Int)=(((x.getD (i+1) 0%2^s)*2^(64-s):Nat):Int):=by
    rw[hL,←z,Int.natCast_emod];rfl
   have C:(x.getD (i+1) 0%2^s)*2^(64-s)<18446744073709551616:=by rw[←z];exact eX _ ag
   have Q:x.getD i 0/2^s<18446744073709551616:=e_ (ju _ _) L;have a8:i<(aM (y.take i++(x.getD i 0/2^s)::aW r 0)).length:=by rw[eS,aV,hl];simp
   have a9:i<(y.take i++(x.getD i 0/2^s)::aW r 0).length:=by rw[aV,hl];simp
   have R:=qs (es:=aW r 0) (e:=x.getD i 0/2^s) hl;have ad:=mc (es:=aW r 0) (e:=x.getD i 0/2^s) (v:=y.getD i 0) hl;generalize(x.getD (i+1) 0%2^s)*2^(64-s)=u at w K C
   have F:=xL ⟨Q,C⟩;rw[w]at F;simp(disch:=omega)only[go_sem,w8,A3,A2,j,l,m,f,e,q,dt,gU,bW,bH,S,dY,aI,Int.add_zero,E,X,P,Z,K,mS,g,R,F,fo,ku,H,ad];refine⟨r,aa,i+1,aa,aa,?_,?_,?_,?_,?_,?_,?_⟩
   iterate 5 simp only[go_sem,j,l,m,f,e]
   ·simp only[go_sem];rfl
   ·have O:=t.set (aM (y.take i++y.getD i 0::aW r 0));rw[(aa:x.length-(i+1)=r),v9 aa,fl];exact O
  ·have ae:x.getD (i+1) 0=0:=by rw[cy,m0 aa];rfl
   rw[ae,Nat.zero_mod,jg,cG]at p;rw[←p]at t;simp(disch:=omega)only[go_sem,w8,A3,A2,j,l,m,f,e,q,dt,df,gU,bW,bH,dY,aI,Int.add_zero,E,mS,g,fo,ku,H,←p];refine⟨r,aa,i+1,aa,aa,?_,?_,?_,?_,?_,?_,?_⟩
   iterate 5 simp only[go_sem,j,l,m,f,e]
   ·simp only[go_sem];rfl
   ·rw[(aa:x.length-(i+1)=r),v9 aa,fl];exact t
 ·have T:i=x.length:=aa;simp(disch:=omega)only[go_sem,w8,Mt,f,e,q,df];rw[T,m6,qb,fN,b8 aa]at b;have g:=b.at;have Y:=b.next
  rw[←am];refine(arn y [] N y.length aa aa _ (by rw[fN];exact g)).mono ?_;rintro _ _ ⟨rfl,rfl⟩;simp only[go_sem];have I:=CV y;rw[me ap,ar]at I⊢;obtain⟨A,ac⟩:=I;refine⟨A,_,rfl,?_,?_⟩
  ·rw[Y];exact mq N
  ·rw[g,←ac]
theorem af5(m n:Nat)(w:n≠0)(Q:2≤(aq n).length)(Z:¬m<n)(bv:m%n≠0)(lm:(aq m).length<100000)(ln:(aq n).length<100000)(N:Nat):c5 310 [bl (aq m),bl (aq n)] (af.zero N) fun v K=>∃q b i c,v=.aA [q,.slice b 0 (aq (m%n)).length c]∧N≤b∧b<K.next∧K.get b=.cells (aM (aq (m%n)++i)) 0:=by
 refine aT F8 ?_;have h1:(aq n).length≠1:=aa;have bd:=(ji n).2 w;simp(disch:=omega)only[go_sem,d310,EX];refine use (ve m n aa aa) ?_;have cp:¬fm (m:Int) (n:Int)<0:=by
  rcases Nat.lt_or_eq_of_le (jW Z)with h|h
  ·rw[nP aa];decide
  ·rw[AQ aa];decide
 have F:(aq n).length≤(aq m).length:=lT (jW Z);obtain⟨J,k⟩:∃t,t=(aq n).getD ((aq n).length-1) 0:=⟨_,rfl⟩;have ae:=CT n w;have H:=(gz n).getD ((aq n).length-1);rw[←k]at ae H;obtain⟨g,U,C⟩:=zo (y:=J) ae H;have ab:=zn J H;obtain⟨s,hs⟩:∃s,s=64-eP J:=⟨_,rfl⟩;rw[←hs]at g U C ab;clear hs;have u:0<2^s:=fR ag;have D:=Ca w g (by rw[←k];exact C);have E:=zz w g (by rw[←k];exact U) (by rw[←k];exact C);have bb:aB .u64 ((s:Nat):Int)=(s:Int):=bV _ aa;have al:aB .i64 (((aq n).length:Int)-1)=((aq n).length:Int)-1:=aI _ aa;have ad:(((aq n).length:Int)-1).toNat=(aq n).length-1:=aa;obtain⟨e,p⟩:∃l,l=(aq m).length:=⟨_,rfl⟩;obtain⟨l,P⟩:∃l,l=(aq n).length:=⟨_,rfl⟩;rw[←p]at F lm;rw[←P]at bd ln h1 Q F k D E al ad;have R:(aq (m*2^s)).length≤e+1:=by
  refine vk ?_;have a:=nS m;rw[←p]at a;have b:2^s≤18446744073709551616:=by rw[sV (s:=s) aa];exact Nat.le_mul_of_pos_left _ (fR ag)
  rw[cS];exact eF (og a u) (fE _ b)
 simp(disch:=omega)only[go_sem,EW,EV,df,←P,al,gU,ad,dY,←k];refine use ab ?_;simp(disch:=omega)only[go_sem,EU,bb];refine use (x1 n s g aa) ?_;have ca:aB .i64 ((e:Int)+1)=(e:Int)+1:=aI _ aa;have b':((e:Int)+1).toNat=e+1:=aa;simp(disch:=omega)only[go_sem,ET,ES,←p,ca,iI,b',oG];refine use (x1 m s g aa) ?_;simp(disch:=omega)only[go_sem];refine Bi (cs:=aM (aW (e+1) 0)) (by simp only[go_sem]) R (by rw[eS];simp) ?_;obtain⟨f,o⟩:∃X,X=aq (m*2^s)++aW (e+1-(aq (m*2^s)).length) 0:=⟨_,rfl⟩;have S:aM (aq (m*2^s))++(aM (aW (e+1) 0)).drop (aq (m*2^s)).length=aM f:=by
  rw[o,yq];congr 1;rw[aM,←List.map_drop,List.drop_replicate];rfl
 have ch:W.az f:=by rw[o];exact(gz _).app (uj _)
 have a8:f.length=e+1:=by rw[o];simp;omega
 have T:W.val f=m*2^s:=by rw[o,W.fM,td,gu,fy,cG]
 rw[S];clear S o R;obtain⟨j,aw⟩:∃j,e+1-l=j:=⟨_,rfl⟩;have cb:aB .i64 ((e:Int)-(l:Int))=(j:Int)-1:=by rw[aI _ aa];omega
 have cd:aB .i64 ((j:Int)-1+1)=(j:Int):=by rw[aI _ aa];omega
 simp(disch:=omega)only[go_sem,E0,EZ,←p,cb,cd,iI,oG,bH];have a6:W.val (f.drop j)<W.val (aq (n*2^s)):=by
  have y:=W.pW f j aa;rw[T]at y;have a:=nS m;rw[←p,(aa:e=j+(l-1)),gG]at a;have b:=og a u;obtain⟨r,M,_⟩:=mV (n*2^s) (uV w aa);rw[D]at M;refine HN b y ?_;rw[gu,M];have a3:2^s≤9223372036854775808:=cH (gw ag g) ag;have c2:=ee (18446744073709551616^(l-1)) (cH a3 E);rw[b3];exact cH c2 (sg _ _)
 refine Fj f (aq (n*2^s)) l e j ch (gz _) a8 D Q aw F aa E N (N+1) aa _ _ _ ?_ ?_ ?_ ?_ ?_ a6 ?_ ?_ ?_
 iterate 5 simp only[go_sem]
 ·simp only[go_sem];rw[aj aa]
 ·simp only[go_sem]
 intro A L r am B hr co ci bs I G bc V bi;have h9:rd 9 A=ay (s:Int):=(B 9 ag).trans (by simp only[go_sem]);have a1:rd 11 A=.slice N 0 (e+1) (.known (e+1)):=(B 11 ag).trans (by simp only[go_sem]);have a2:rd 12 A=.slice (N+1) 0 j (.known j):=(B 12 ag).trans (by simp only[go_sem]);rw[fF];rw[T,gu]at I;rw[gu]at G;have a7:0<n*2^s:=Nat.mul_pos aa u;have hq:W.val am=m/n:=by
  rw[←Nat.mul_div_mul_right m n u,←I,b3,Nat.mul_add_div a7,m3 G,cG]
 have b1:W.val r=m%n*2^s:=by
  rw[←si,←I,b3,Nat.mul_add_mod,kf G]
 simp(disch:=omega)only[go_sem,EY,a2];refine jo (qR am aa) V ⟨0,_,_,ec.2 rfl⟩ (.cons (qp V (by rw[af.aK,ao rfl]) bs) .nil) ?_;simp(disch:=omega)only[go_sem,a1];have Y:(L.set (N+1) .none).get N=.cells (aM (r++aW j 0)) 0:=by rw[af.aK,aj aa];exact bc
 have be:(r++aW j 0).length=e+1:=by simp;omega
 refine jo (qR (r++aW j 0) aa) Y ⟨0,_,_,ec.2 rfl⟩ (.cons (qp Y (by rw[af.aK,ao rfl]) be) .nil) ?_;have b2:W.trim (r++aW j 0)=aq (m%n*2^s):=by
  rw[me (co.app (uj _)),W.fM,td,fy,cG,b1]
 rw[b2,me ci,hq];have b0:(aq (m%n*2^s)).length<100000:=by
  have:=lT (m:=m%n*2^s) (n:=n*2^s) (ee _ (hO (eX _ aa)));omega
 have a5:m%n*2^s≠0:=uV bv aa;have bj:N≤L.next:=by rw[bi];simp only[go_sem];omega
 simp(disch:=omega)only[go_sem,h9];refine(Kh (R:=fun v b O=>∃i c,v=.slice b 0 (aq (m%n)).length c∧O=aM (aq (m%n)++i)) (cD.refl _) ((aqd (m%n*2^s) s g a5 b0 _).mono ?_)).mono ?_
 ·rintro _ H4 ⟨i,c,rfl,hb,z⟩;rw[uU _ u]at z⊢;exact⟨_,_,_,.slice _ _ _,aF _,hb,z,fun x y=>by
   simp only[aM,kT]at y;obtain⟨d,_,rfl⟩:=y;exact⟨_,_,rfl⟩,i,c,rfl,rfl⟩
 rintro _ H4 ⟨b,O,⟨i,c,rfl,rfl⟩,a',ba,z⟩;simp(disch:=omega)only[go_sem];exact⟨_,b,i,c,rfl,cH bj a',ba,by rw[z,ao rfl]⟩
theorem af9(m n:Nat)(d:n≠0)(f:2≤(aq n).length)(i:¬m<n)(j:m%n≠0)(k:(aq m).length<80)(l:(aq n).length<80)(N:Nat):c5 250 [bl (aq m),bl (aq n)] (af.zero N) fun v a=>∃q b e c,v=.aA [q,.slice b 0 (aq (m%n)).length c]∧N≤b∧b<a.next∧a.get b=.cells (aM (aq (m%n)++e)) 0:=by
 refine aT F6 ?_;simp(disch:=omega)only[go_sem,d250,ED,EC,dt];refine(af5 m n d f i j aa aa N).mono ?_;rintro _ a ⟨q,b,e,c,rfl,g,d,h⟩;simp only[go_sem];exact⟨q,b,e,c,rfl,g,d,h⟩
def qu(l:List Nat)(n s:Nat):Nat:=l.getD (n-1) 0*2^s+l.getD (n-2) 0/2^(64-s)
theorem OG{l:List Nat}{n s:Nat}(A:s≤63)(f:2≤n)(hl:l.length≤n)(t:W.az l):∃d,W.val l=18446744073709551616^(n-2)*2^(64-s)*qu l n s+d∧d<18446744073709551616^(n-2)*2^(64-s):=by
 have k:∃L:List Nat,L.length=n∧W.val L=W.val l∧W.az L∧∀i,L.getD i 0=l.getD i 0:=by
  refine⟨l++aW (n-l.length) 0,by simp;omega,by rw[W.fM,td,fy,cG],t.app (uj _),fun i=>?_⟩;simp only[cy];rcases oe i l.length with h|h
  ·rw[p8 h]
  ·rw[tv h,m0 h];rcases oe (i-l.length) (n-l.length)with h1|h1
   ·rw[List.getElem?_replicate,ao h1];rfl
   ·rw[m0 (by simpa using h1)]
 obtain⟨L,x,o,u,c⟩:=k;have h:=W.vD (l:=L) (n:=n) f aa (fun p y=>by rw[cy,m0 aa];rfl);have z:W.val (L.take (n-2))<18446744073709551616^(n-2):=by
  have:=W.gY (u.take (n-2));rw[g_ aa]at this;exact this
 rw[o,c,c]at h;unfold qu;generalize l.getD (n-1) 0=b at*
 generalize l.getD (n-2) 0=a at*
 generalize W.val (L.take (n-2))=r at*
 generalize(18446744073709551616:Nat)^(n-2)=P at*
 have e:=sV (s:=s) aa;have hT:0<2^(64-s):=fR ag;have g:=jt a (2^(64-s));have j:=eX a hT;generalize 2^(64-s)=T at*
 generalize a/T=q at*
 generalize a%T=m at*
 refine⟨P*m+r,?_,?_⟩
 ·rw[h,e,←g,eu,cr,eu];have v:b*(T*2^s)*P=P*T*(b*2^s):=by ac_rfl
  have w:T*q*P=P*T*q:=by ac_rfl
  rw[v,w,b3 m];omega
 ·have:=fE P (show m+1≤T from j);rw[cr,ef]at this;omega
def jQ(b c d e:Nat)(a:Bool):List V:=[ay (b:Int),ay (c:Int),ay (d:Int),ay (e:Int),.bool a]
def At(A B:Nat)(v:V):Prop:=∃c d a b e,v=.agg (jQ c d a b e)∧c<18446744073709551616∧d<18446744073709551616∧a<18446744073709551616∧b<18446744073709551616∧(a≠0→1≤b∧∃f g,tu A B c d a b e f g)
variable{n:Bool}
theorem B0{j o k i l f s:Nat}(g:od h u L j o k i l f s n)(v:h<18446744073709551616):j<18446744073709551616∧i<18446744073709551616∧k<18446744073709551616:=by
 have m:=g.Ie;have w:f≤h:=by
  have:=g.hF;have q:f≤l*f:=by rw[b3];exact rH m
  omega
 rcases g.ph with⟨a,b,c,d,e⟩|⟨a,b,c,p,x,y,r,t,_⟩
 ·omega
 ·have:p≤i*p:=by rw[b3];exact rH a
  omega
theorem aqi(i p:Nat)(S:i<18446744073709551616)(V:p≤i)(Q:1≤i)(F:Fr)(H:af)(R:X→Fr→af→Prop)(b:Nat)(L:rd 7 F=ay (i:Int))(M:rd 8 F=ay (p:Int))(N:rd 9 F=.ptr b 0)(J:rd 10 F=ay 0)(K:rd 11 F=ay 1)(T:H.get b=.cells (jQ 0 1 0 0 false) 0)
 (U:∀g B l e d o c a f s n,od i p l e d o c a f s n→l<18446744073709551616→rd 9 g=.ptr b 0→rd 4 g=rd 4 F→eI H B b (jQ l e o c n)→R (.exit 1) g B):bw (.loop (pc 249 5)) R F H:=by
 refine bK (fun k m t=>∃(l e d o c a f:Nat) (n:Bool),od i p l e d o c a f k n∧l<18446744073709551616∧rd 4 m=rd 4 F∧rd 7 m=ay (f:Int)∧rd 8 m=ay (k:Int)∧rd 9 m=.ptr b 0∧rd 10 m=ay (d:Int)∧rd 11 m=ay (a:Int)∧eI H t b (jQ l e o c n)) p ⟨0,1,0,0,0,1,i,false,od.start V Q,ag,rfl,L,M,N,J,K,eI.refl T⟩ ?_;rintro s m t ⟨l,e,d,o,c,a,f,n,j,ab,w,C,x,r,O,v,y⟩;rw[aat];have z:=y.at;have Y:=j.small;have ae:=j.Ie;have a6:=j.Ic;have a2:f≤i:=by
  have:=j.hF;have h2:f≤a*f:=by rw[b3];exact rH ae
  omega
 have a5:=j.sf;have D:∀g:Fr,rd 9 g=.ptr b 0→rd 4 g=rd 4 F→R (.exit 1) g t:=fun g h P=>U g t _ _ _ _ _ _ _ _ _ j ab h P y
 unfold jQ at z;by_cases I:a≤s
 ·have a7:=Y.2 aa;have E:aB .u64 ((f:Int)-(s:Int))=((f-s:Nat):Int):=by rw[bV _ aa];omega
  have G:aB .u64 ((c:Int)+(a:Int))=((c+a:Nat):Int):=by rw[bV _ aa];omega
  by_cases c2:c+a≤f-s
  ·have u:=j.step I aa;have ad:=u.Ic;have Z:=u.small.1;have a4:¬((s:Nat):Int)=0:=aa;have ac:=(B0 j S).1;obtain⟨q,A⟩:∃q,q=f/s:=⟨_,rfl⟩;rw[←A]at u ad Z;have a3:q≤f:=by rw[A];exact ju _ _
   have aw:aB .u64 ((q:Nat):Int)=(q:Int):=bV _ aa;have wr:aB .u64 ((f%s:Nat):Int)=((f%s:Nat):Int):=bV _ ⟨uP _,by
    have:=Nat.mod_le f s;omega⟩
   have ap:aB .u64 ((q:Int)*(a:Int))=((q*a:Nat):Int):=by rw[←fY];exact bV _ aa
   have wa:aB .u64 ((c:Int)+((q*a:Nat):Int))=((c+q*a:Nat):Int):=by rw[bV _ aa];omega
   have ar:aB .u64 ((q:Int)*(d:Int))=((q*d:Nat):Int):=by rw[←fY];exact bV _ aa
   have am:aB .u64 ((e:Int)+((q*d:Nat):Int))=((e+q*d:Nat):Int):=by rw[bV _ aa];omega
   simp(disch:=omega)only[go_sem,aas,aar,aaq,aak,aaj,C,x,r,O,v,z,E,G,df,jK,mC,s8,yc,←A,aw,ap,wa,ar,am];have W:f%s<s:=eX _ aa;refine⟨f%s,W,e,d,e+q*d,c,a,c+q*a,s, !n,u,ac,?_,?_,?_,?_,?_,?_,?_⟩
   iterate 6 simp only[go_sem,w,r]
   ·exact((((y.set _).set _).set _).set _).set _
  ·simp(disch:=omega)only[go_sem,C,x,r,v,z,E,G,dt,df];refine D _ ?_ ?_
   iterate 2 simp only[go_sem,r,w]
 ·simp(disch:=omega)only[go_sem,x,v,dt];refine D _ ?_ ?_
  iterate 2 simp only[go_sem,r,w]
theorem Qa{y:Nat}(i:h≤63)(d:a*2^h<18446744073709551616)(g:y<18446744073709551616):a*2^h|||y/2^(64-h)=a*2^h+y/2^(64-h)∧a*2^h+y/2^(64-h)<18446744073709551616:=by
 have c:=Fk (s:=64-h) (d:=y) aa g;rw[(aa:64-(64-h)=h)]at c;refine⟨?_,?_⟩
 ·rw[←Nat.shiftLeft_eq a h,←Nat.shiftLeft_add_eq_or_of_lt c]
 ·have b:=sV (s:=h) aa;have e:a+1≤2^(64-h):=by
   rw[b]at d;exact tE d
  have f:=ee (2^h) e;rw[←b,eu,iP]at f;omega
theorem aiG{B X c:Nat}(d:B≤a)(e:a=X*h+L)(g:L<X)(f:B=X*u+c):u≤h:=by
 refine jW fun b=>?_
 have:=fE X (show h+1≤u from b);rw[cr,ef]at this;omega
theorem Oq(h:d.length≤a):d.getD a 0=0:=by rw[cy,m0 h];rfl
theorem aqh(A B:Nat)(O:B≤A)(N:2≤(aq B).length)(la:(aq A).length<1000000)(H:af):c5 249 [bl (aq A),bl (aq B)] H fun v L=>At A B v∧L=H:=by
 refine pI (.cons (dW _) (.cons (dW _) .nil)) (e4.mono (Q:=fun v _=>At A B v) (fun v L h=>⟨v,.same v,?_,h⟩) ?_) H
 ·obtain⟨E,G,I,J,y,rfl,_⟩:=h;exact .agg (.cons (.int _ _) (.cons (.int _ _) (.cons (.int _ _) (.cons (.int _ _) (.cons (.bool _) .nil)))))
 have p:(aq B).length≤(aq A).length:=lT O;have M:A≠0:=fun e=>by
  rw[e,j3]at p;simp only[kS]at p;omega
 have ap:=CT A M;have z:=gz A;have C:=gz B;have ca:=gu A;have cb:=gu B;have am:(aq B).length=(aq A).length→(aq B).getD ((aq A).length-1) 0≤(aq A).getD ((aq A).length-1) 0:=fun e=>by
  have a9:B≠0:=fun e=>by rw[e,j3]at N;simp at N
  obtain⟨r,e1,e2⟩:=mV A M;obtain⟨r',f1,f2⟩:=mV B a9;rw[e]at f1 f2;generalize(aq A).getD ((aq A).length-1) 0=t at*
  generalize(aq B).getD ((aq A).length-1) 0=t' at*
  generalize(18446744073709551616:Nat)^((aq A).length-1)=P at*
  refine jW fun b0=>?_
  have:=ee P (show t+1≤t' from b0);rw[eu,iP]at this;omega
 obtain⟨n,bF⟩:∃n,n=(aq A).length:=⟨_,rfl⟩;generalize aq A=a at*
 generalize aq B=b at*
 rw[←bF]at p ap am la;have Y:2≤n:=aa;have T:=z.getD (n-1);have U:=z.getD (n-2);have c1:=C.getD (n-1);have V:=C.getD (n-2);obtain⟨g,R,j⟩:=zo ap T;have W:=zn _ T;obtain⟨s,hs⟩:∃s,s=64-eP (a.getD (n-1) 0):=⟨_,rfl⟩;rw[←hs]at g R j W;clear hs;obtain⟨α,k,ar⟩:=OG (l:=a) (n:=n) (s:=s) g Y aa z;obtain⟨β,l,cf⟩:=OG (l:=b) (n:=n) (s:=s) g Y aa C;rw[ca]at k;rw[cb]at l;have bc:=aiG O k ar l;obtain⟨ab,c⟩:=Qa g j U;have a':1≤qu a n s:=cH (cH ag R) (sg _ _);have bb:a.getD (n-1) 0*2^s+a.getD (n-2) 0/2^(64-s)=qu a n s:=rfl;rw[bb]at ab c;have bi:aB .u64 ((s:Nat):Int)=(s:Int):=bV _ aa;have Z:ep s (gQ .u64)=s:=ld (aa:s≤64);have q:ep (64-s) (gQ .u64)=64-s:=ld (aa:64-s≤64);have m:aB .u64 ((64:Int)-(s:Int))=((64-s:Nat):Int):=by rw[bV _ aa];omega
 have i:aB .i64 ((n:Int)-1)=(n:Int)-1:=aI _ aa;have u:aB .i64 ((n:Int)-2)=(n:Int)-2:=aI _ aa;have w:((n:Int)-1).toNat=n-1:=aa;have x:((n:Int)-2).toNat=n-2:=aa;have b1:((a.getD (n-1) 0:Nat):Int)*((2^s:Nat):Int)=((a.getD (n-1) 0*2^s:Nat):Int):=by rw[fY]
 have cd:aB .u64 ((a.getD (n-1) 0*2^s:Nat):Int)=((a.getD (n-1) 0*2^s:Nat):Int):=bV _ aa;have bj:a.getD (n-2) 0/2^(64-s)<18446744073709551616:=e_ (ju _ _) U;have ac:=xL (x:=a.getD (n-1) 0*2^s) (y:=a.getD (n-2) 0/2^(64-s)) ⟨j,bj⟩;rw[ab]at ac;have D:∀F:Fr,rd 7 F=ay (qu a n s:Nat)→rd 8 F=ay (qu b n s:Nat)→rd 4 F=.ptr 5 0→∀H,H.next=6→H.get 5=.cells [ay 0,ay 0,ay 0,ay 0,aC] 0→bw (pc 249 10) (fu [gH.cell 4 true 5] fun v _=>At A B v) F H:=by
  intro F f7 f8 f4 H X bs;simp(disch:=omega)only[go_sem,aal,aax,aaw,aav,X];refine aqi (qu a n s) (qu b n s) c bc a' _ _ _ 6 ?_ ?_ ?_ ?_ ?_ ?_ ?_
  iterate 5 simp only[go_sem,f7,f8]
  ·simp only[go_sem];rfl
  intro F' K E G u2 I J v2 f t y d b' cW g4 Q;have a7:rd 4 F'=.ptr 5 0:=g4.trans (by simp only[go_sem,f4]);have aw:K.get 6=.cells (jQ E G I J y) 0:=Q.at;have ch:K.get 5=.cells [ay 0,ay 0,ay 0,ay 0,aC] 0:=by
   rw[Q.get,aj ag];simp only[go_sem,X,bs]
  unfold jQ at aw;rw[fF];simp(disch:=omega)only[go_sem,aau,cW,a7,aw,ch];exact⟨E,G,I,J,y,rfl,b',(B0 d c).1,(B0 d c).2.2,(B0 d c).2.1,fun h0=>⟨(by rcases d.ph with h|h<;>omega),d.pair h0 k ar l cf⟩⟩
 refine aT akY ?_;simp(disch:=omega)only[go_sem,d249,aap,aao,←bF,i,gU,w,dY];refine use W ?_;simp(disch:=omega)only[go_sem,aan,aam,i,u,gU,w,x,dY,bi,Z,q,m,b1,cd,mS,ac];by_cases bv:b.length=n
 ·have S:b.getD (n-1) 0*2^s<18446744073709551616:=e_ (ee _ (am bv)) j;obtain⟨ae,c0⟩:=Qa g S V;have ba:b.getD (n-1) 0*2^s+b.getD (n-2) 0/2^(64-s)=qu b n s:=rfl;rw[ba]at ae;have b2:((b.getD (n-1) 0:Nat):Int)*((2^s:Nat):Int)=((b.getD (n-1) 0*2^s:Nat):Int):=by rw[fY]
  have ce:aB .u64 ((b.getD (n-1) 0*2^s:Nat):Int)=((b.getD (n-1) 0*2^s:Nat):Int):=bV _ aa;have bo:b.getD (n-2) 0/2^(64-s)<18446744073709551616:=e_ (ju _ _) V;have ad:=xL (x:=b.getD (n-1) 0*2^s) (y:=b.getD (n-2) 0/2^(64-s)) ⟨S,bo⟩;rw[ae]at ad;simp(disch:=omega)only[go_sem,EB,dt,i,u,gU,w,x,dY,Z,q,m,b2,ce,mS,ad];refine D _ ?_ ?_ ?_ _ ?_ ?_
  iterate 5 simp only[go_sem]
 ·have bd:b.getD (n-1) 0=0:=Oq aa;have o:qu b n s=b.getD (n-2) 0/2^(64-s):=by unfold qu;rw[bd,jg,eJ]
  by_cases c2:b.length=n-1
  ·simp(disch:=omega)only[go_sem,EB,dt,df,i,u,gU,x,dY,q,m,mS];refine D _ ?_ ?_ ?_ _ ?_ ?_
   iterate 5 simp only[go_sem,o]
  ·have be:b.getD (n-2) 0=0:=Oq aa;rw[be,Nat.zero_div]at o;simp(disch:=omega)only[go_sem,EB,df,i];refine D _ ?_ ?_ ?_ _ ?_ ?_
   ·simp only[go_sem]
   ·simp only[go_sem,o];rfl
   iterate 3 simp only[go_sem]
theorem anb(x y c:Nat)(b:x<18446744073709551616)(d:y<18446744073709551616)(h:c<18446744073709551616):aS 311 [ay (x:Int),ay (y:Int),ay (c:Int)] (.aA [ay (((x*y+c)%18446744073709551616:Nat):Int),ay (((x*y+c)/18446744073709551616:Nat):Int)]):=by
 refine cM (.cons (.int _ _) (.cons (.int _ _) (.cons (.int _ _) .nil))) (.aA (.cons (.int _ _) (.cons (.int _ _) .nil))) (aT alj ?_);have i:=xI b d;have f:=B6 x y b d;generalize x*y=p at*
 have a:=u0 (a:=p%18446744073709551616) (b:=c) (c:=0) aa;rw[cG,jU]at a;have e:(p%18446744073709551616+c)%18446744073709551616=(p+c)%18446744073709551616:=aa;rw[e]at a;have g:aB .u64 (((p/18446744073709551616:Nat):Int)+(((p%18446744073709551616+c)/18446744073709551616:Nat):Int))=(((p+c)/18446744073709551616:Nat):Int):=by rw[bV _ aa];omega
 simp(disch:=omega)only[go_sem,d311,acf];refine use f ?_;simp(disch:=omega)only[go_sem,ace,acd,a,g]
theorem B5{P X b x:Nat}(d:a+P*h=X*u)(c:L+18446744073709551616*b=x*u+h):a+P*L+P*18446744073709551616*b=(X+P*x)*u:=by
 have e:=congrArg (P* ·) c;simp only[cr,←cI]at e;rw[eu];omega
theorem cE.other{b' g':Nat}{cs':List V}(d:cE c a h b)(k:a≠b')(l:a≠g')(m:h≠b')(n:h≠g'):cE (af.wr c b' g' cs') a h b:=by
 have g:∀y,y≠b'→y≠g'→(af.wr c b' g' cs').get y=c.get y:=fun y i j=>by
  unfold af.wr;rw[af.aK,aj (fun e=>j e.symm),af.aK,aj (fun e=>i e.symm)]
 obtain⟨f,o,p⟩:=d.bD;exact⟨by rw[g _ k l];exact d.row,⟨f,by rw[g _ m n];exact o,p⟩,d.ne⟩
theorem cE.written(e:cE c a h b)(d:List V):cE (af.wr c a h d) a h d:=((mw.refl e).wr d).mM
theorem nq(d:u≠a)(f:u≠h):(af.wr c a h b).get u=c.get u:=by
 unfold af.wr;rw[af.aK,aj (fun e=>f e.symm),af.aK,aj (fun e=>d e.symm)]
structure Am (b g b' g' n:Nat):Prop where
 h1:b≠b'
 h2:b≠g'
 h3:g≠b'
 h4:g≠g'
 lb:b<n
 mM:g<n
 lb':b'<n
 xB:g'<n
structure uL (Iw Iy:List Nat) (i bT u1 v0 v1:Nat) (jm:Bool) (ad bd:List Nat) (Ka Kb Kc Kd DS ln:Nat):Prop where
 la:ad.length=i
 lb:bd.length=i
 GA:W.az ad
 zB:W.az bd
 hP:Ka<18446744073709551616
 hQ:Kb<18446744073709551616
 hR:Kc<18446744073709551616
 hT:Kd<18446744073709551616
 OC:DS≤1
 OH:ln≤1
 eq:∃Dg Dk Dl Dn,Dg+18446744073709551616^i*Ka=W.val (Iw.take i)*bT∧Dk+18446744073709551616^i*Kb=W.val (Iy.take i)*v0∧Dl+18446744073709551616^i*Kc=W.val (Iy.take i)*v1∧Dn+18446744073709551616^i*Kd=W.val (Iw.take i)*u1∧
  (jm=false→Dk+18446744073709551616^i*DS=W.val ad+Dg∧Dn+18446744073709551616^i*ln=W.val bd+Dl)∧(jm=true→Dg+18446744073709551616^i*DS=W.val ad+Dk∧Dl+18446744073709551616^i*ln=W.val bd+Dn)
theorem sub_eq{P c d b f x y:Nat}(g:u+P*c=x)(i:L+P*d=y)(j:y=x+a)(k:L+P*b=f+u)(l:a<P)(m:f<P):f=a:=by
 have e:a+P*(c+b)=f+P*d:=by rw[cr];omega
 rcases Nat.lt_trichotomy (c+b) d with h|h|h
 ·have:=fE P (show c+b+1≤d from h);rw[cr,ef]at this;omega
 ·rw[h]at e;omega
 ·have:=fE P (show d+1≤c+b from h);rw[cr,ef]at this;omega
theorem uL.done{t:List Nat}{f:Nat}{v w:List Nat}{y z C D x J A B b g:Nat}(c:uL d t a h u L f n v w y z C D x J)(G:W.val (d.take a)=A)(H:W.val (t.take a)=B)(P:A<18446744073709551616^a)(e:tu A B h u L f n b g)(I:1≤f):W.val v=b∧W.val w=g:=by
 obtain⟨K,M,N,O,i,j,k,l,E,F⟩:=c.eq;have Q:b≤A:=by
  have:=e.ba;have S:b≤f*b:=by rw[b3];exact rH I
  omega
 have R:g≤b:=e.le;have r:=W.gY c.GA;have s:=W.gY c.zB;rw[c.la]at r;rw[c.lb]at s;rw[G]at i l;rw[H]at j k;cases n with
 |false=>
  obtain⟨m,o⟩:=e.ev rfl;obtain⟨p,q⟩:=E rfl;refine⟨sub_eq i j ?_ p aa r,sub_eq k l ?_ q aa s⟩
  ·rw[b3 B,b3 A];exact m
  ·rw[b3 B,b3 A];exact o
 |true=>
  obtain⟨m,o⟩:=e.GB rfl;obtain⟨p,q⟩:=F rfl;refine⟨sub_eq j i ?_ p aa r,sub_eq l k ?_ q aa s⟩
  ·rw[b3 B,b3 A];exact m
  ·rw[b3 B,b3 A];exact o
theorem uL.step{f:List Nat}{A:Nat}{g i:List Nat}{B C D E l z x y p q r t m s v w j k c e:Nat}(b:uL d f a h u L A n g i B C D E l z)(hi:a<d.length)(I:a<f.length)(J:d.getD a 0=x)(K:f.getD a 0=y)
 (al:p+18446744073709551616*m=x*h+B) (eQ:q+18446744073709551616*s=y*L+C) (ap:r+18446744073709551616*v=y*A+D) (ar:t+18446744073709551616*w=x*u+E) (T:m<18446744073709551616) (U:s<18446744073709551616) (V:v<18446744073709551616) (X:w<18446744073709551616) (Y:j≤1) (Z:k≤1) (k1:c<18446744073709551616) (k2:e<18446744073709551616)
 (H:n=false→q+18446744073709551616*j=c+p+l∧t+18446744073709551616*k=e+r+z) (M:n=true→p+18446744073709551616*j=c+q+l∧r+18446744073709551616*k=e+t+z):
 uL d f (a+1) h u L A n (g++[c]) (i++[e]) m s v w j k:=by
 obtain⟨P,Q,R,S,e1,e2,ad,ae,F,G⟩:=b.eq;have N:W.val (g++[c])=W.val g+18446744073709551616^a*c:=by rw[W.fM,b.la];simp[W.val]
 have O:W.val (i++[e])=W.val i+18446744073709551616^a*e:=by rw[W.fM,b.lb];simp[W.val]
 refine⟨by simp[b.la],by simp[b.lb],b.GA.app (.mk k1 W.az.nil),b.zB.app (.mk k2 W.az.nil),T,U,V,X,Y,Z,P+18446744073709551616^a*p,Q+18446744073709551616^a*q,R+18446744073709551616^a*r,S+18446744073709551616^a*t,?_,?_,?_,?_,fun o=>?_,fun o=>?_⟩
 ·rw[kQ hi,J,cS];exact B5 e1 al
 ·rw[kQ I,K,cS];exact B5 e2 eQ
 ·rw[kQ I,K,cS];exact B5 ad ap
 ·rw[kQ hi,J,cS];exact B5 ae ar
 ·rw[N,O,cS];exact⟨wT (F o).1 (H o).1,wT (F o).2 (H o).2⟩
 ·rw[N,O,cS];exact⟨wT (G o).1 (M o).1,wT (G o).2 (M o).2⟩
end Go.Proofs.YtddhncjmaahodaaGreatDoor
