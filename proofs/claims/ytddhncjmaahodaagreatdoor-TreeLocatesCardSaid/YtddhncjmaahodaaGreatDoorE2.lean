/- Towards the law TreeLocates: lemmas on the evaluator of the model's code, plain laws of numbers, walks of the program's functions, the card. No conditions. -/
import Derived.Test.YtddhncjmaahodaaGreatDoorE1
set_option linter.all false
noncomputable section
open Bool renaming and_eq_true→cu,eq_false_iff→mY,false_eq_true→ie,or_eq_true→r3
open Classical renaming byContradiction→oa
open Go.Proofs.Tryz renaming prog→eP
open Int renaming natAbs_mul→oS,natAbs_natCast→dB,natAbs_neg→mZ,natCast_mul→fU,natCast_nonneg→uR,natCast_zero→jT,ofNat_lt→m0,tdiv→mg,tmod→m3,toNat_natCast→bJ
open List renaming append_assoc→eJ,append_nil→fG,cons_append→eS,drop_eq_getElem_cons→lI,drop_left→uS,drop_of_length_le→jB,getD_eq_getElem?_getD→bX,getElem?_append_left→lJ,getElem?_append_right→q4,getElem?_drop→q5,getElem?_eq_getElem→cn,getElem?_eq_none→kO,getElem?_eq_some_iff→fN,getElem?_map→iy,getElem_mem→wI,length_append→aS,length_cons→cL,length_drop→gZ,length_nil→kP,length_singleton→gH,length_take_of_le→g6,length_take→dD,length→ku,mem_append→gI,mem_cons→g7,mem_map→k_,mem_of_getElem?→eT,mem_of_mem_take→uT,mem_singleton→dj,merge→sj,nil_append→eI,pairwise_append→wK,pairwise_cons→tD,replicate_succ→p7,replicate_zero→p8,replicate→aX,take_append_drop→p9,take_left→p_,take_of_length_le→b_,take_succ_eq_append_getElem→kQ,take_zero→q6
open Nat renaming add_assoc→jl,add_comm→i_,add_mul→cF,add_sub_cancel→qb,add_zero→cE,add→gv,beq_refl→sn,beq→bn,ble→bM,div_add_mod→jm,div_div_eq_div_mul→oX,div_eq_of_lt→m4,div_le_self→jn,div_lt_iff_lt_mul→q8,div_lt_of_lt_mul→uU,div_mul_le_self→wM,div_one→qc,dvd_mul_left→uV,dvd_trans→tF,eq_zero_or_pos→so,gcd_comm→qd,gcd→cx,le_add_right→sq,le_div_iff_mul_le→tG,le_of_lt→g8,le_of_not_lt→jC,le_refl→aE,le_succ→sr,le_trans→cy,lt_of_le_of_lt→eY,lt_of_lt_of_le→eG,lt_of_mul_lt_mul_right→tH,lt_of_not_le→tI,lt_or_ge→mj,lt_succ_self→mm,lt_trans→qe,mod_eq_of_lt→jV,mod_lt→eU,mul_add→bD,mul_assoc→bT,mul_comm→bK,mul_div_cancel→uW,mul_le_mul_left→fy,mul_le_mul_right→dn,mul_le_mul→j_,mul_left_comm→mo,mul_lt_mul_of_pos_right→od,mul_mod_mul_right→su,mul_ne_zero→uX,mul_one→dF,mul_right_comm→tJ,mul_zero→fc,mul→dQ,not_lt_zero→ke,one_mul→ga,pos_of_ne_zero→ld,pow_add→gw,pow_le_pow_left→wN,pow_le_pow_right→gl,pow_pos→fl,pow_succ→cQ,pow_zero→nK,reduceEqDiff→kR,strongRecOn→jD,sub_self→m6,sub→ja,succ_mul→oe,succ_ne_zero→uY,succ_pos→lf,zero_add→dK,zero_le→bQ,zero_mul→jb
open Option renaming none→aM
open Rat renaming divInt_ofNat→u5,divInt→nL
open UInt8 renaming ofNat→gJ
namespace Go.Proofs.YtddhncjmaahodaaGreatDoor
open Go.au Go.aF
theorem aqQ(x y:Int):(if(!(decide (x<0)==decide (y<0)))=true then-((x.natAbs/y.natAbs:Nat):Int)else((x.natAbs/y.natAbs:Nat):Int))=x.tdiv y:=by
 cases x with
 |ofNat a=>cases y with
  |ofNat b=>
   have c:¬(Int.ofNat a<0):=aB;have d:¬(Int.ofNat b<0):=aB;simp only[c,d,decide_false,JT,GM,ie,↓reduceIte];rfl
  |negSucc b=>
   have c:¬(Int.ofNat a<0):=aB;have d:(Int.negSucc b<0):=Int.negSucc_lt_zero b;simp only[c,d,decide_false,decide_true,JU,nf,↓reduceIte];rfl
 |negSucc a=>cases y with
  |ofNat b=>
   have c:(Int.negSucc a<0):=Int.negSucc_lt_zero a;have d:¬(Int.ofNat b<0):=aB;simp only[c,d,decide_false,decide_true,JV,nf,↓reduceIte];rfl
  |negSucc b=>
   have c:(Int.negSucc a<0):=Int.negSucc_lt_zero a;have d:(Int.negSucc b<0):=Int.negSucc_lt_zero b;simp only[c,d,decide_true,JW,GM,ie,↓reduceIte];rfl
theorem aqZ(x y:Int):(if decide (x<0)=true then-((x.natAbs%y.natAbs:Nat):Int)else((x.natAbs%y.natAbs:Nat):Int))=x.tmod y:=by
 cases x with
 |ofNat a=>
  have b:¬(Int.ofNat a<0):=aB;simp only[b,decide_false,ie,↓reduceIte];cases y<;>rfl
 |negSucc a=>
  have b:(Int.negSucc a<0):=Int.negSucc_lt_zero a;simp only[b,decide_true,↓reduceIte];cases y<;>rfl
theorem QH(x y:Int)(d:y≠0)(b:dW x.natAbs)(c:dW y.natAbs):aW 85 [ct x,ct y] (.az [ct (x.tdiv y),ct (x.tmod y)]):=by
 have e:=b.len;have f:=c.len;refine cO (.cons (ju _) (.cons (ju _) .nil)) (.az (.cons (ju _) (.cons (ju _) .nil))) (aT alG ?_);have a:=Np x.natAbs y.natAbs aa aa aa;simp only[go_sem,d85,afk,afj,ct,dL];refine use a ?_;simp only[go_sem];refine use (qF _ _) ?_;simp only[go_sem,true_and];refine use (qF _ _) ?_;simp only[go_sem,ct,dL];rw[aqQ,aqZ]
theorem ahC(x y:Int)(q:dW x.natAbs)(r:dW y.natAbs):aW 83 [ct x,ct y] (ct (cx x.natAbs y.natAbs)):=by
 have s:=q.len;have t:=r.len;refine cO (.cons (ju _) (.cons (ju _) .nil)) (ju _) (aT alE ?_);simp only[go_sem,d83,aff,afe,afd,ct,dL,true_and]
 refine bH (fun k c f=>∃a b:Nat,rd 5 c=mag (aN a)∧rd 6 c=mag (aN b)∧rd 4 c=.ptr 7 0∧k=b∧cx a b=cx x.natAbs y.natAbs∧(aN a).length≤2000000∧(aN b).length≤2000000∧f.get 7=.cells [aD,.an] 0) y.natAbs
  ⟨x.natAbs,y.natAbs,?_,?_,?_,rfl,rfl,aa,aa,?_⟩ ?_
 iterate 4 simp only[go_sem]
 rintro k c f ⟨a,b,h,d,g,rfl,m,p,e,j⟩;simp only[afc,afb,afa];by_cases l:k=0
 ·subst l;have i:(aN 0).length=0:=by rw[iV];rfl
  simp(disch:=omega)only[go_sem,d,i,df];simp only[go_sem,h];refine use (qF _ _) ?_;simp only[go_sem,ct,dL,g,j];rw[←m,Nat.gcd_zero_right];rfl
 ·have i:0<(aN k).length:=(sE k).2 l;have o:=Np a k aa p e;simp(disch:=omega)only[go_sem,h,d,dt];refine use o ?_;simp only[go_sem,d];have n:a%k<k:=eU _ aa;refine⟨a%k,n,k,a%k,?_,?_,?_,rfl,?_,e,cy (B6 (g8 n)) e,j⟩
  iterate 3 simp only[go_sem,g]
  ·rw[←m,qd a k,Nat.gcd_rec k a,qd]
section
open Go.au Tryz
set_option maxRecDepth 100000
attribute [local irreducible] rd kc ex bE bF re rg mv bS pick alloc box bi bs be bp st fa cz cN dI c8 dN eB eA ms dx ek ej dY mx mn dX ap ee cJ dZ d_ cm ec ext er neg Go.au.not en ei ep eo ey eu ef ew dR dP u8
def xe:=ai 22 f22 0
def xg:=ai 22 f22 1
def xh:=ai 22 f22 2
def LM:=ai 22 f22 3
def d22:=aU 22 f22
def OX:=aR f22 22
def adl:=ai 35 f35 0
def adm:=ai 35 f35 1
def adn:=ai 35 f35 2
def ado:=ai 35 f35 3
def MA:=ai 35 f35 4
def d35:=aU 35 f35
def ak8:=aR f35 35
def adJ:=ai 37 f37 0
def Fb:=ai 37 f37 1
def d37:=aU 37 f37
def alg:=aR f37 37
def adK:=ai 38 f38 0
def Fc:=ai 38 f38 1
def d38:=aU 38 f38
def alh:=aR f38 38
def adL:=ai 39 f39 0
def d39:=aU 39 f39
def ali:=aR f39 39
def adM:=ai 40 f40 0
def d40:=aU 40 f40
def alj:=aR f40 40
def adP:=ai 44 f44 0
def MU:=ai 44 f44 1
def adQ:=ai 44 f44 2
def MV:=ai 44 f44 3
def MW:=ai 44 f44 4
def adR:=ai 44 f44 5
def MX:=ai 44 f44 6
def adS:=ai 44 f44 7
def adT:=ai 44 f44 8
def adU:=ai 44 f44 9
def Fe:=ai 44 f44 10
def Ff:=ai 44 f44 11
def Fg:=ai 44 f44 12
def d44:=aU 44 f44
def alm:=aR f44 44
def aeP:=ai 63 f63 0
def d63:=aU 63 f63
def aly:=aR f63 63
def aeR:=ai 65 f65 0
def d65:=aU 65 f65
def alA:=aR f65 65
def aeS:=ai 68 f68 0
def aeT:=ai 68 f68 1
def ae0:=ai 68 f68 2
def ae1:=ai 68 f68 3
def ae2:=ai 68 f68 4
def Fh:=ai 68 f68 5
def ae3:=ai 68 f68 6
def ae4:=ai 68 f68 7
def ae5:=ai 68 f68 8
def ae6:=ai 68 f68 9
def aeU:=ai 68 f68 10
def aeV:=ai 68 f68 11
def aeW:=ai 68 f68 12
def aeX:=ai 68 f68 13
def aeY:=ai 68 f68 14
def aeZ:=ai 68 f68 15
def M4:=ai 68 f68 16
def d68:=aU 68 f68
def alB:=aR f68 68
def afo:=ai 95 f95 0
def Fo:=ai 95 f95 1
def afp:=ai 95 f95 2
def afq:=ai 95 f95 3
def afr:=ai 95 f95 4
def afs:=ai 95 f95 5
def aft:=ai 95 f95 6
def afu:=ai 95 f95 7
def afv:=ai 95 f95 8
def afw:=ai 95 f95 9
def d95:=aU 95 f95
def alL:=aR f95 95
end
end Go.Proofs.YtddhncjmaahodaaGreatDoor
namespace Go.aF
def dd(q:Rat):Nat:=if q.den=1 then 0 else q.den
variable{a:Nat}
theorem zI(n:Int)(b:a≠0):(mkRat n a).num=n.tdiv (cx n.natAbs a:Nat):=by
 rw[←Rat.normalize_eq_mkRat b,Rat.normalize_eq];exact(Int.tdiv_eq_ediv_of_dvd (Int.ofNat_dvd_left.2 (Nat.gcd_dvd_left _ _))).symm
theorem GB(n:Int)(b:a≠0):(mkRat n a).den=a/cx n.natAbs a:=by
 rw[←Rat.normalize_eq_mkRat b,Rat.normalize_eq]
theorem mk_one{n:Int}{m:Nat}(a:m≠0)(b:cx n.natAbs m=1):(mkRat n m).num=n∧(mkRat n m).den=m:=by
 rw[zI _ a,GB _ a,b];exact⟨Int.tdiv_one _,qc _⟩
theorem AO(p q:Rat):p+q=mkRat (p.num*q.den+q.num*p.den) (p.den*q.den):=by
 rw[Rat.add_def,Rat.normalize_eq_mkRat]
theorem GD(p q:Rat):p*q=mkRat (p.num*q.num) (p.den*q.den):=by
 rw[Rat.mul_def,Rat.normalize_eq_mkRat]
variable{z:Rat}
theorem add_one{q:Rat}(a:z.den=1)(b:q.den=1):(z+q).num=z.num+q.num∧(z+q).den=1:=by
 rw[AO,a,b];have:=mk_one (n:=z.num*((1:Nat):Int)+q.num*((1:Nat):Int)) (m:=1*1) ag aB;simpa using this
theorem mul_one{q:Rat}(a:z.den=1)(b:q.den=1):(z*q).num=z.num*q.num∧(z*q).den=1:=by
 rw[GD,a,b];have:=mk_one (n:=z.num*q.num) (m:=1*1) ag aB;simpa using this
structure a_ (k:Nat) (q:Rat):Prop where
 num:q.num.natAbs<2^k
 den:q.den<2^k
theorem mk_le(n:Int){m:Nat}(a:m≠0):(mkRat n m).num.natAbs≤n.natAbs∧(mkRat n m).den≤m:=by
 rw[zI _ a,GB _ a,Int.natAbs_tdiv];exact⟨jn _ _,jn _ _⟩
variable{u:Nat}{L:Nat}
theorem uj{a y:Nat}(b:L<2^a)(c:y<2^u):L*y<2^(a+u):=by
 rw[gw];rcases so y with h|h
 ·rw[h,fc];exact Nat.mul_pos (fl ag) (fl ag)
 ·exact eG (od b h) (fy _ (g8 c))
theorem zY{n a m b c k:Nat}(h:n<a^m)(d:a≤b^c)(f:c*m≤k)(e:0<b):n<b^k:=
 eG h (cy (wN d m) (by rw[←Nat.pow_mul];exact gl e f))
theorem aof{n a m b c k:Nat}(h:n<b^k)(f:k≤c*m)(d:b^c≤a)(e:0<b):n<a^m:=
 eG h (cy (gl e f) (by rw[Nat.pow_mul];exact wN d m))
theorem Ct{k:Nat}(h:0<k):a_ k 0:=⟨Nat.two_pow_pos k,Nat.one_lt_two_pow aa⟩
variable{h:Nat}
theorem a_.mono{a:Nat}(b:a_ a z)(c:a≤h):a_ h z:=
 ⟨eG b.num (gl ag c),eG b.den (gl ag c)⟩
theorem a_.add{a:Nat}{q:Rat}(b:a_ a z)(c:a_ h q):a_ (a+h+1) (z+q):=by
 have f:z.den*q.den≠0:=uX z.den_nz q.den_nz;rw[AO];obtain⟨g,i⟩:=mk_le (z.num*q.den+q.num*z.den) f;have j:=uj b.num c.den;have d:=uj c.num b.den;have k:=uj b.den c.den;have l:(z.num*(q.den:Int)+q.num*(z.den:Int)).natAbs≤z.num.natAbs*q.den+q.num.natAbs*z.den:=by
  refine cy (Int.natAbs_add_le _ _) ?_;rw[oS,oS];exact aE _
 have e:2^(h+a)=2^(a+h):=by rw[i_]
 rw[e]at d;refine⟨?_,?_⟩
 ·rw[cQ];omega
 ·rw[cQ];omega
theorem a_.mul{a:Nat}{q:Rat}(c:a_ a z)(d:a_ h q):a_ (a+h) (z*q):=by
 have i:z.den*q.den≠0:=uX z.den_nz q.den_nz;rw[GD];obtain⟨b,e⟩:=mk_le (z.num*q.num) i;have f:=uj c.num d.num;have g:=uj c.den d.den;rw[oS]at b;exact⟨eY b f,eY e g⟩
theorem a_.neg{a:Nat}(b:a_ a z):a_ a (-z):=by
 refine⟨?_,?_⟩
 ·rw[Rat.neg_num,mZ];exact b.num
 ·rw[Rat.neg_den];exact b.den
theorem a_.sub{a:Nat}{q:Rat}(b:a_ a z)(c:a_ h q):a_ (a+h+1) (z-q):=by
 rw[Rat.sub_eq_add_neg];exact b.add c.neg
variable{q:Int}
theorem a_.ofInt(h:q.natAbs<2^a)(b:0<a):a_ a (q:Rat):=
 ⟨h,by show 1<2^a;exact Nat.one_lt_two_pow aa⟩
end Go.aF
namespace Go.Proofs.YtddhncjmaahodaaGreatDoor
open Go.au Go.aF
def aV(q:Rat):List V:=[.bool (decide (q.num<0)),mag (aN q.num.natAbs),aD,mag (aN (dd q))]
def bw(q:Rat):V:=.agg (aV q)
theorem pg(q:Rat):bY (aV q):=.cons (.bool _) (.cons (jZ _) (.cons (.bool _) (.cons (jZ _) .nil)))
theorem fX(q:Rat):bz (bw q):=.agg (pg q)
variable{a:Nat}
theorem dW.of{k:Nat}(h:a<2^k)(b:k≤30000000):dW a:=by
 exact @Go.aF.aof a 4294967296 1000000 2 32 k h (cy b ag) ag ag
variable{z:Rat}
theorem ng(h:z.den=1):dd z=0:=ak h
theorem jK{q:Rat}(h:q.den≠1):dd q=q.den:=aj h
theorem GG(n:Nat):ct (n:Int)=.agg [aD,mag (aN n)]:=by
 unfold ct dL;rw[show decide (((n:Nat):Int)<0)=false from aZ aa];rfl
theorem sU:(aN 0).length=0:=by rw[iV];rfl
theorem sS(h:a≠0):0<(aN a).length:=(sE a).2 h
theorem xl(q:Rat):aW 90 [bw q] (ct q.den):=by
 refine cO (.cons (fX _) .nil) (ju _) (aT alJ ?_);by_cases h:q.den=1
 ·have a:=ng h;simp(disch:=omega)only[go_sem,d90,Nd,Nc,bw,aV,a,sU,dt];refine use (tZ 1 ag) ?_;simp only[go_sem,ct,dL];rw[h];rfl
 ·have a:=jK h;have:=sS q.den_nz;simp(disch:=omega)only[go_sem,d90,Nd,Nc,bw,aV,a,df];rw[GG]
theorem z_(q:Rat):aW 91 [bw q] (ah (if q.num<0 then-1 else if q.num=0 then 0 else 1)):=by
 refine cO (.cons (fX _) .nil) (.int _ _) (aT alK ?_);simp(disch:=omega)only[go_sem,d91,afn,bw,aV];refine use (RK q.num) ?_;simp only[go_sem]
theorem Rl(q:Rat):aW 63 [bw q] (bw (-q)):=by
 refine cO (.cons (fX _) .nil) (fX _) (aT aly ?_);simp(disch:=omega)only[go_sem,d63,aeP,bw,aV];refine use (GJ q.num) ?_;simp only[go_sem,ct,dL,true_and];rw[Rat.neg_num];unfold dd;rw[Rat.neg_den]
variable{c:af}
theorem On(a:z.den=1):∃v,bR c (af.zero c.next) (.agg [.bool (decide (z.num<0)),mag (aN z.num.natAbs),aD,.an]) v∧bz v∧v=bw z:=
 ⟨_,.agg (.cons (.same _) (.cons (.same _) (.cons (.same _) (.cons .fK .nil)))),by
   have e:V.row 0 []=mag (aN (dd z)):=by rw[ng a,iV];rfl
   rw[e];exact⟨fX z,rfl⟩⟩
variable{q:Int}
theorem F2(b:z.num=q)(a:z.den=1):∃v,bR c (af.zero c.next) (.agg [.bool (decide (q<0)),mag (aN q.natAbs),aD,.an]) v∧bz v∧v=bw z:=by
 subst b;exact On a
variable{b:List V}{s:V}
theorem fE(d:bY b)(h:c7 a b (af.zero 5) fun e c=>∃v,bR c (af.zero c.next) e v∧bz v∧v=s):aW a b s:=
 pJ (R:=fun v=>v=s) d h
theorem iA{v:V}(h:v=s)(a:bz s):∃u,bR c (af.zero c.next) v u∧bz u∧u=s:=⟨v,.same v,by rw[h];exact a,h⟩
theorem z3(n:Int)(h: -9223372036854775808≤n∧n<9223372036854775808):aW 65 [ah n] (bw (n:Rat)):=by
 refine fE (.cons (.int _ _) .nil) (aT alA ?_);simp only[go_sem,d65,aeR];refine use (tZ n h) ?_;simp only[go_sem,ct,dL];exact F2 rfl rfl
theorem Oh(q:Rat)(j:dW q.den)(F:Fr)(H:af)(e:rd 2 F=.ptr 5 0)(c:rd 3 F=.ptr 6 0)(f:rd 4 F=.ptr 7 0)(b:H.get 5=.cells (dL q.num) 0)(a:H.get 6=.cells (dL q.den) 0)(br:H.get 7=.cells [aD,.an,aD,.an] 0):
 bx (pc 35 1) (gk [.cell 4 true 4] fun k d=>∃v,bR d (af.zero d.next) k v∧bz v∧v=bw q) F H:=by
 unfold dL at b a;have i:=JZ (q.den:Int) j;have g:decide (((pE ((q.den:Nat):Int).natAbs:Nat):Int)=1)=decide (q.den=1):=decide_eq_decide.2 (by
  rw[dB];have:=PV (n:=q.den);omega)
 simp only[go_sem,adm,adl,c,a];refine use i ?_;by_cases h:q.den=1
 ·simp(disch:=assumption)only[go_sem,g,dt,e,c,f,b,a,br];exact On h
 ·simp(disch:=assumption)only[go_sem,g,df,e,c,f,b,a,br];refine iA ?_ (fX q);unfold bw aV;rw[jK h,show decide (((q.den:Nat):Int)<0)=false from aZ aa,dB]
theorem Oi(n d:Int)(J:0<d)(z:dW n.natAbs)(l:dW d.natAbs)(F:Fr)(H:af)(b:rd 2 F=.ptr 5 0)(f:rd 3 F=.ptr 6 0)(s:rd 4 F=.ptr 7 0)(a:H.next=8)(c:H.get 5=.cells (dL n) 0)(e:H.get 6=.cells (dL d) 0)(br:H.get 7=.cells [aD,.an,aD,.an] 0):
 bx (pc 35 3) (gk [.cell 4 true 4] fun I q=>∃v,bR q (af.zero q.next) I v∧bz v∧v=bw (mkRat n d.natAbs)) F H:=by
 have p:d.natAbs≠0:=aa;have E:0<cx n.natAbs d.natAbs:=Nat.gcd_pos_of_pos_right _ aa;have x:cx n.natAbs d.natAbs≤d.natAbs:=Nat.gcd_le_right _ aa;have m:dW (cx n.natAbs d.natAbs):=eY x l;have A:dW (mkRat n d.natAbs).den:=eY (mk_le n p).2 l;have i:=zI n p;have j:=GB n p;have w:((d.natAbs/cx n.natAbs d.natAbs:Nat):Int)=d.tdiv (cx n.natAbs d.natAbs:Nat):=by
  obtain⟨k,rfl⟩:∃k:Nat,d=k:=⟨d.natAbs,aa⟩;rfl
 have t:=ahC n d z l;have o:=JZ (cx n.natAbs d.natAbs:Nat) (by rw[dB];exact m);obtain⟨g,D⟩:∃g,g=cx n.natAbs d.natAbs:=⟨_,rfl⟩;rw[←D]at E x m i j w t o;rw[dB]at o;have u:decide (1<((pE g:Nat):Int))=decide (1<g):=decide_eq_decide.2 (by
  have r:=PV (n:=g);have b:=anf (n:=g);omega)
 have G:=QH n (g:Int) aa z (by rw[dB];exact m);have y:=QH d (g:Int) aa l (by rw[dB];exact m);rw[←w]at y;have B:=c;have C:=e;unfold dL at c e;simp only[go_sem,ado,adn,b,f,c,e];refine use t ?_;simp only[go_sem,ct,dL,a];refine use o ?_;by_cases h:1<g
 ·simp(disch:=assumption)only[go_sem,u,dt,b,a,c];refine use G ?_;simp(disch:=assumption)only[go_sem,ct,dL,b,f,a,c,e];refine use y ?_;simp(disch:=assumption)only[go_sem,ct,dL,f,a,e];refine Oh _ A _ _ ?_ ?_ ?_ ?_ ?_ ?_
  iterate 3 simp only[go_sem,b,f,s]
  ·rw[i];simp only[go_sem,dL]
  ·rw[j];simp only[go_sem,dL]
  ·simp only[go_sem,br,a]
 ·have r:g=1:=aa;subst r;rw[show((1:Nat):Int)=1 from rfl,Int.tdiv_one]at i;rw[qc]at j;simp(disch:=assumption)only[go_sem,u,df];refine Oh _ A _ _ ?_ ?_ ?_ ?_ ?_ ?_
  iterate 3 simp only[go_sem,b,f,s]
  ·rw[i];simp only[go_sem,B,a]
  ·rw[j,(aa:((d.natAbs:Nat):Int)=d)];simp only[go_sem,C,a]
  ·simp only[go_sem,br,a]
theorem xC(n d:Int)(f:d≠0)(c:dW n.natAbs)(b:dW d.natAbs):aW 35 [ct n,ct d] (bw (nL n d)):=by
 refine fE (.cons (ju _) (.cons (ju _) .nil)) (aT ak8 ?_);by_cases h:d<0
 ·have e:nL n d=mkRat (-n) (-d).natAbs:=by
   obtain⟨k,rfl⟩:∃k:Nat,d= -(k:Int):=⟨d.natAbs,aa⟩;rw[←Rat.neg_divInt_neg,Int.neg_neg,u5];simp
  simp(disch:=assumption)only[go_sem,d35,MA,ct,dL,dt];refine use (GJ n) ?_;simp(disch:=assumption)only[go_sem,ct,dL,true_and];have a:=GJ d;simp only[ct,dL,bk h]at a;refine use a ?_;simp(disch:=assumption)only[go_sem];rw[e];refine Oi (-n) (-d) aa (by rw[mZ];exact c) (by rw[mZ];exact b) _ _ ?_ ?_ ?_ rfl ?_ ?_ ?_
  all_goals simp only[go_sem,dL]
 ·have e:nL n d=mkRat n d.natAbs:=by
   obtain⟨k,rfl⟩:∃k:Nat,d=(k:Int):=⟨d.natAbs,aa⟩;rw[u5];simp
  simp(disch:=assumption)only[go_sem,d35,MA,ct,dL,df];rw[e];refine Oi n d aa c b _ _ ?_ ?_ ?_ rfl ?_ ?_ ?_
  all_goals simp only[go_sem,dL,aZ h]
theorem sP(z:Int):V.agg [.bool (decide (z<0)),mag (aN z.natAbs)]=ct z:=rfl
theorem pK(q:Rat):V.agg [.bool (decide (q.num<0)),mag (aN q.num.natAbs),aD,mag (aN (dd q))]=bw q:=rfl
variable{h:Nat}{u:Nat}{L:Nat}
theorem yf{a:Nat}(c:u<2^a)(d:L<2^h)(b:a+h≤30000000):dW (u*L):=dW.of (uj c d) b
theorem xY(p q:Rat){a:Nat}(i:a_ a p)(j:a_ h q)(z:a+h+1≤30000000):aW 37 [bw p,bw q] (bw (p+q)):=by
 have o:dW p.num.natAbs:=dW.of i.num aa;have s:dW q.num.natAbs:=dW.of j.num aa;have r:dW p.den:=dW.of i.den aa;have t:dW q.den:=dW.of j.den aa;refine fE (.cons (fX _) (.cons (fX _) .nil)) (aT alg ?_)
 have n:∀F H,rd 2 F=.ptr 5 0→rd 3 F=.ptr 6 0→rd 4 F=.ptr 7 0→H.get 5=.cells (aV p) 0→H.get 6=.cells (aV q) 0→H.get 7=.cells [aD,.an,aD,.an] 0→
  bx (pc 37 0) (gk [.cell 4 true 4] fun G m=>∃v,bR m (af.zero m.next) G v∧bz v∧v=bw (p+q)) F H:=by
  intro F H b g y f c br;unfold aV at f c;have B:dW (p.num*(q.den:Int)).natAbs:=by rw[oS];exact yf i.num j.den aa
  have C:dW (q.num*(p.den:Int)).natAbs:=by rw[oS];exact yf j.num i.den aa
  have D:dW ((p.den:Int)*(q.den:Int)).natAbs:=by rw[oS];exact yf i.den j.den aa
  have E:dW (p.num*(q.den:Int)+q.num*(p.den:Int)).natAbs:=by
   refine eY (Int.natAbs_add_le _ _) ?_;rw[oS,oS];have I:=uj i.num j.den;have u:=uj j.num i.den;rw[i_ h a]at u;refine dW.of (k:=a+h+1) ?_ z;rw[cQ];show p.num.natAbs*q.den+q.num.natAbs*p.den<_;omega
  have A:((p.den:Int)*(q.den:Int))≠0:=by
   have k:=p.den_nz;have b:=q.den_nz;exact Int.mul_ne_zero aa aa
  have e:nL (p.num*(q.den:Int)+q.num*(p.den:Int)) ((p.den:Int)*(q.den:Int))=p+q:=by
   rw[AO,←fU,u5]
  simp only[go_sem,adJ,sP,pK,b,g,f,c];refine use (xl q) ?_;simp only[go_sem,sP,pK,b,g,f,c,true_and];refine use (xR _ _ o (by rw[dB];exact t)) ?_;simp only[go_sem,sP,pK,b,g,f,c,true_and];refine use (xl p) ?_;simp only[go_sem,sP,pK,b,g,f,c,true_and];refine use (xR _ _ s (by rw[dB];exact r)) ?_;simp only[go_sem,pK,b,g,f,c,true_and];refine use (I6 _ _ B C) ?_;simp only[go_sem,pK,b,g,f,c,true_and];refine use (xl p) ?_;simp only[go_sem,pK,g,c,true_and];refine use (xl q) ?_;simp only[go_sem];refine use (xR _ _ (by rw[dB];exact r) (by rw[dB];exact t)) ?_;simp only[go_sem];refine use (xC _ _ A E D) ?_;rw[e];simp only[go_sem,bw,aV,y,br];exact iA rfl (fX _)
 by_cases k:p.den=1
 ·by_cases b:q.den=1
  ·have d:=ng k;have l:=ng b;obtain⟨w,x⟩:=add_one k b;simp(disch:=omega)only[go_sem,d37,Fb,bw,aV,d,l,sU,sP,jT,decide_true];refine use (I6 _ _ o s) ?_;simp only[go_sem,ct,dL];exact F2 w x
  ·have d:=ng k;have l:=jK b;have K:=sS q.den_nz;simp(disch:=omega)only[go_sem,d37,Fb,bw,aV,d,l,sU,df,jT,decide_true];refine n _ _ ?_ ?_ ?_ ?_ ?_ ?_
   all_goals simp only[go_sem,aV,d,l]
 ·have d:=jK k;have J:=sS p.den_nz;simp(disch:=omega)only[go_sem,d37,Fb,bw,aV,d,df];refine n _ _ ?_ ?_ ?_ ?_ ?_ ?_
  all_goals simp only[go_sem,aV,d]
theorem Rk(p q:Rat){a:Nat}(f:a_ a p)(g:a_ h q)(C:a+h≤30000000):aW 38 [bw p,bw q] (bw (p*q)):=by
 have r:dW p.num.natAbs:=dW.of f.num aa;have s:dW q.num.natAbs:=dW.of g.num aa;have z:dW p.den:=dW.of f.den aa;have A:dW q.den:=dW.of g.den aa;refine fE (.cons (fX _) (.cons (fX _) .nil)) (aT alh ?_)
 have n:∀F H,rd 2 F=.ptr 5 0→rd 3 F=.ptr 6 0→rd 4 F=.ptr 7 0→H.get 5=.cells (aV p) 0→H.get 6=.cells (aV q) 0→H.get 7=.cells [aD,.an,aD,.an] 0→
  bx (pc 38 0) (gk [.cell 4 true 4] fun B m=>∃v,bR m (af.zero m.next) B v∧bz v∧v=bw (p*q)) F H:=by
  intro F H c l w k j br;unfold aV at k j;have o:dW (p.num*q.num).natAbs:=by rw[oS];exact yf f.num g.num aa
  have y:dW ((p.den:Int)*(q.den:Int)).natAbs:=by rw[oS];exact yf f.den g.den aa
  have x:((p.den:Int)*(q.den:Int))≠0:=by
   have d:=p.den_nz;have c:=q.den_nz;exact Int.mul_ne_zero aa aa
  have e:nL (p.num*q.num) ((p.den:Int)*(q.den:Int))=p*q:=by
   rw[GD,←fU,u5]
  simp only[go_sem,adK,sP,pK,c,l,k,j];refine use (xR _ _ r s) ?_;simp only[go_sem,pK,c,l,k,j,true_and];refine use (xl p) ?_;simp only[go_sem,pK,l,j,true_and];refine use (xl q) ?_;simp only[go_sem];refine use (xR _ _ (by rw[dB];exact z) (by rw[dB];exact A)) ?_;simp only[go_sem];refine use (xC _ _ x o y) ?_;rw[e];simp only[go_sem,bw,aV,w,br];exact iA rfl (fX _)
 by_cases d:p.den=1
 ·by_cases c:q.den=1
  ·have b:=ng d;have i:=ng c;obtain⟨t,u⟩:=mul_one d c;have o:dW (p.num*q.num).natAbs:=by rw[oS];exact yf f.num g.num aa
   simp(disch:=omega)only[go_sem,d38,Fc,bw,aV,b,i,sU,sP,jT,decide_true];refine use (xR _ _ r s) ?_;simp only[go_sem,ct,dL];exact F2 t u
  ·have b:=ng d;have i:=jK c;have E:=sS q.den_nz;simp(disch:=omega)only[go_sem,d38,Fc,bw,aV,b,i,sU,df,jT,decide_true];refine n _ _ ?_ ?_ ?_ ?_ ?_ ?_
   all_goals simp only[go_sem,aV,b,i]
 ·have b:=jK d;have D:=sS p.den_nz;simp(disch:=omega)only[go_sem,d38,Fc,bw,aV,b,df];refine n _ _ ?_ ?_ ?_ ?_ ?_ ?_
  all_goals simp only[go_sem,aV,b]
theorem HJ(p q:Rat){a:Nat}(c:a_ a p)(d:a_ h q)(b:a+h+1≤30000000):aW 39 [bw p,bw q] (bw (p-q)):=by
 refine cO (.cons (fX _) (.cons (fX _) .nil)) (fX _) (aT ali ?_);simp only[go_sem,d39,adL,bw,aV];refine use (Rl q) ?_;simp only[go_sem,pK,true_and];refine use (xY p (-q) c d.neg b) ?_;rw[Rat.sub_eq_add_neg];simp only[go_sem,bw,aV]
def fL(q:Rat):Int:=if q.num<0 then-1 else if q.num=0 then 0 else 1
theorem xZ(p q:Rat){a:Nat}(c:a_ a p)(d:a_ h q)(b:a+h+1≤30000000):aW 40 [bw p,bw q] (ah (fL (p-q))):=by
 refine cO (.cons (fX _) (.cons (fX _) .nil)) (.int _ _) (aT alj ?_);simp only[go_sem,d40,adM,bw,aV];refine use (HJ p q c d b) ?_;simp only[go_sem,pK];refine use (z_ (p-q)) ?_;simp only[go_sem,fL]
end Go.Proofs.YtddhncjmaahodaaGreatDoor
namespace Go.aF
def ds(n:Nat):List UInt8:=if h:n=0 then []else ds (n/10)++[gJ (48+n%10)]
termination_by n
decreasing_by omega
theorem nh:ds 0=[]:=by rw[ds];simp
variable{a:Nat}
theorem qo(h:a≠0):ds a=ds (a/10)++[gJ (48+a%10)]:=by rw[ds];simp[h]
theorem Bm(v c:Nat)(a:c<10)(h:v≠0∨c≠0):ds (10*v+c)=ds v++[gJ (48+c)]:=by
 rw[qo aa,(aa:(10*v+c)/10=v),(aa:(10*v+c)%10=c)]
def dec(n:Nat):List UInt8:=if n=0 then [48]else ds n
def dv(l:List UInt8):Nat:=l.foldl (fun a c=>10*a+(c.toNat-48)) 0
theorem xp(l:List UInt8)(c:UInt8):dv (l++[c])=10*dv l+(c.toNat-48):=by simp[dv]
theorem agb(n:Nat):dv (ds n)=n:=by
 induction n using jD with
 |ind n a=>
  by_cases h:n=0
  ·subst h;rw[nh];rfl
  ·rw[qo h,xp,a (n/10) aa];have:(gJ (48+n%10)).toNat=48+n%10:=by
    rw[UInt8.toNat_ofNat'];omega
   rw[this];omega
theorem nR(n:Nat):dv (dec n)=n:=by
 unfold dec;split
 ·rename_i h;rw[h];rfl
 ·exact agb n
def eg(c:UInt8):Prop:=48≤c.toNat∧c.toNat≤57
instance(c:UInt8):Decidable (eg c):=inferInstanceAs (Decidable (_∧_))
theorem af_(n:Nat):∀c∈ds n,eg c:=by
 induction n using jD with
 |ind n a=>
  by_cases h:n=0
  ·subst h;rw[nh];intro c hc;cases hc
  ·rw[qo h];intro c hc;rcases gI.1 hc with hc|hc
   ·exact a (n/10) aa c hc
   ·rw[dj.1 hc];have:(gJ (48+n%10)).toNat=48+n%10:=by
     rw[UInt8.toNat_ofNat'];omega
    unfold eg;rw[this];omega
theorem o8(n:Nat):∀c∈dec n,eg c:=by
 unfold dec;split
 ·intro c a;rw[dj.1 a];decide
 ·exact af_ n
theorem Bl(h:a≠0):ds a≠[]:=by rw[qo h];simp
theorem o9(n:Nat):dec n≠[]:=by
 unfold dec;split
 ·simp
 ·rename_i h;exact Bl h
theorem af9(n:Nat):∀c l,ds n=c::l→c≠48:=by
 induction n using jD with
 |ind n f=>
  by_cases h:n=0
  ·subst h;rw[nh];intro c l a;cases a
  ·rw[qo h];intro c l a;by_cases b:n/10=0
   ·rw[b,nh]at a;have e:=(List.cons.inj a).1;rw[←e];intro d;have:=congrArg UInt8.toNat d;rw[UInt8.toNat_ofNat']at this;have g:(48:UInt8).toNat=48:=rfl;omega
   ·cases e:ds (n/10)with
    |nil=>exact absurd e (Bl b)
    |cons x m=>
     rw[e]at a;have:=(List.cons.inj a).1;rw[←this];exact f (n/10) aa x m e
theorem qn{n k:Nat}(h:n<10^k):(ds n).length≤k:=by
 induction k generalizing n with
 |zero=>
  have:n=0:=by simp at h;exact h
  rw[this,nh];exact aE _
 |succ k a=>
  by_cases e:n=0
  ·rw[e,nh];exact bQ _
  ·rw[qo e];have:=a (n:=n/10) (by rw[cQ]at h;omega);simp;omega
theorem af'{n:Nat}(h:10^a≤n):a<(ds n).length:=by
 induction a generalizing n with
 |zero=>
  have:n≠0:=by simp at h;omega
  exact List.length_pos_iff.2 (Bl this)
 |succ a b=>
  have:n≠0:=by have:=fl (n:=a+1) (ag:0<10);omega
  rw[qo this];have:=b (n:=n/10) (by rw[cQ]at h;omega);simp;omega
variable{h:Nat}
theorem zg(b:a<2^h):(dec a).length≤h+1:=by
 unfold dec;split
 ·simp
 ·have:a<10^h:=eG b (wN ag h);have:=qn this;omega
variable{j:List UInt8}
theorem af8(k:∀c∈j,eg c)(h:∀c m,j=c::m→c≠48):ds (dv j)=j:=by
 have:∀(r:List UInt8),(∀c∈r,eg c)→(∀c m,r.reverse=c::m→c≠48)→ds (dv r.reverse)=r.reverse:=by
  intro r;induction r with
  |nil=>intro _ _;exact nh
  |cons c r n=>
   intro f g;have i:eg c:=f c aB;have b:=n (fun x l=>f x (by simp[l])) (fun x m e=>g x (m++[c]) (by simp[e]));have d:gJ (48+(c.toNat-48))=c:=by
    rw[show 48+(c.toNat-48)=c.toNat by have:=i.1;omega];simp
   rw[List.reverse_cons,xp,Bm _ _ (by have:=i.2;omega),b,d];by_cases e:r.reverse=[]
   ·right;intro a;refine g c [] (by simp[e]) ?_;rw[←d,a];rfl
   ·left;intro a;rw[a,nh]at b;exact e b.symm
 have:=this j.reverse (by simpa using k) (by simpa using h);simpa using this
theorem Fs{a:Nat}(b:dec a=dec h):a=h:=by rw[←nR a,b,nR]
def bh(q:Rat):List UInt8:=(if q.num<0 then [45]else [])++(dec q.num.natAbs++(if q.den=1 then []else 47::dec q.den))
def pv:List Nat→Nat
 |[]=>0
 |d::l=>d+1000000000*pv l
theorem QA:∀(l m:List Nat),pv (l++m)=pv l+1000000000^l.length*pv m
 |[],m=>by simp[pv]
 |d::l,m=>by
  simp only[eS,pv,cL,cQ,QA l m,bD];rw[bK (1000000000^l.length) 1000000000,bT,jl]
theorem aoz(l:List Nat)(d m:Nat)(h:d+1000000000*m=a):pv (l++[d])+1000000000^(l++[d]).length*m=pv l+1000000000^l.length*a:=by
 rw[QA,←h,aS,gH,cQ,bD];simp only[pv,fc,cE];rw[bT,jl]
variable{d:List Nat}
theorem aoy(h:a<d.length):pv (d.drop a)=d.getD a 0+1000000000*pv (d.drop (a+1)):=by
 rw[lI h];simp[pv,bX,h]
theorem afQ(w p s:Nat)(b:s<9):w*10^(9-s)+p/10^s=10*(w*10^(9-(s+1))+p/10^(s+1))+p/10^s%10:=by
 have a:9-s=(9-(s+1))+1:=aa;rw[a,cQ,cQ,←oX,←bT];omega
end Go.aF
namespace Go.Proofs.YtddhncjmaahodaaGreatDoor
open Go.au Go.aF
variable{c:af}{d:List Nat}{a:Nat}{h:Nat}
theorem aiM{v:V}{k:IntKind}(g:aI c 1 v (bt d) a)(hi:h<d.length):∃b,dJ none 1 [v,.int k (h:Int)]=some (.val (.ptr b h))∧c.get b=.cells (bt d) a∧c.fR b a=true:=by
 generalize e:bt d=r at g
 cases g with
 |nil=>
  have:=congrArg ku e;rw[hO,kP]at this;omega
 |cells i l j o m hl p=>
  rename_i b n f;have q:n=d.length:=by rw[←e,hO]at m;omega
  refine⟨b,?_,i,xN l j⟩;rw[b3 ⟨aa,aa⟩];simp
def AE(p w i:Nat)(e:V)(f:List Nat)(g3:Nat):Nat→Fr→af→Prop:=fun k a b=>∃(s:Nat) (d:V) (c:Nat),k=s∧s≤9∧rd 3 a=e∧rd 8 a=ah (i:Int)∧rd 7 a=d∧rd 9 a=.int .u32 (((10^s/10:Nat)):Int)∧aI b 1 d (cl (ds (w*10^(9-s)+p/10^s))) c∧(ds (w*10^(9-s)+p/10^s)).length≤(ds w).length+(9-s)∧(c=0∨c≠g3)∧aI b 1 e (bt f) g3∧g3<b.next
theorem afO(p w:Nat)(hp:p<1000000000)(i:Nat)(b Y:V)(br:Nat)(F:Fr)(H:af)(R:X→Fr→af→Prop)(f:List Nat)(g3:Nat)(h3:aI H 1 b (bt f) g3)(hi:i<f.length)(bi:f.getD i 0=p)
 (hw:(ds w).length+9≤1000000000) (h7:aI H 1 Y (cl (ds w)) br) (bc:br=0∨br≠g3) (ba:g3<H.next) (a2:rd 3 F=b) (a3:rd 7 F=Y) (a4:rd 8 F=ah (i:Int)) (a5:rd 9 F=.int .u32 100000000)
 (hR:∀z A r q,rd 3 z=b→rd 8 z=ah (i:Int)→rd 7 z=r→aI A 1 r (cl (ds (p+1000000000*w))) q→(q=0∨q≠g3)→aI A 1 b (bt f) g3→g3<A.next→R (.exit 4) z A):
 bx (.loop (pc 68 6)) R F H:=by
 refine bH (AE p w i b f g3) 9
  ⟨9,Y,br,rfl,aE _,a2,a4,a3,by rw[a5];rfl,?_,?_,bc,h3,ba⟩ ?_
 ·rw[m6,nK,dF,m4 hp,cE];exact h7
 ·rw[m6,nK,dF,m4 hp,cE];exact aE _
 rintro k ca G ⟨s,r,q,rfl,hs,l,m,v,g,h,bb,D,B,ad⟩;rw[ae3];cases k with
 |zero=>
  simp only[nK,show 1/10=0 from rfl,Nat.sub_zero,qc]at g h;simp(disch:=omega)only[go_sem,g,jT,df];refine hR _ _ r q ?_ ?_ ?_ ?_ D B ad
  iterate 3 simp only[go_sem,l,m,v]
  ·rw[show p+1000000000*w=w*10^9+p by rw[bK w];omega];exact h
 |succ s=>
  have bo:10^(s+1)/10=10^s:=by rw[cQ,uW _ ag]
  have bs:0<10^s:=fl ag;have bj:10^s≤10^8:=gl ag aa;have E:=afQ w p s aa;rw[bo]at g;obtain⟨d,y⟩:∃d,d=10^s:=⟨_,rfl⟩;obtain⟨x,o⟩:∃x,x=p/d:=⟨_,rfl⟩;obtain⟨c,Z⟩:∃c,c=x%10:=⟨_,rfl⟩;have ab:c<10:=aa;obtain⟨u,hu⟩:∃u,u=w*10^(9-(s+1))+p/10^(s+1):=⟨_,rfl⟩;rw[←y]at g bs bj E;rw[←o,←Z,←hu]at E;rw[←hu]at h bb;obtain⟨a1,T,bA,l3⟩:=aiM (k:=.i64) B hi;have P:sQ false 1 i G a1 (.cells (bt f) g3)=some (.int .u32 (p:Int)):=by rw[Gr l3,hC hi,bi]
  have cf:((d:Nat):Int)≠0:=aa;have ch:x<4294967296:=by rw[o];exact eY (jn _ _) aa
  have N:((x:Nat):Int).tmod 10=(c:Int):=by rw[Z];rfl
  have S:aC .u8 (48+(c:Int))=((48+c:Nat):Int):=by rw[Sy];omega
  have O:aC .u32 (48+(c:Int))=48+(c:Int):=gC _ aa;have C:=h.len ag;rw[jc,qc]at C;have be:((d:Nat):Int).tdiv 10=((10^s/10:Nat):Int):=by rw[y];rfl
  have cd:(10:Int)≠0:=ag;have ce:10^s/10<4294967296:=by rw[←y];omega
  have a':[V.int .u8 ((48+c:Nat):Int)]=cl [gJ (48+c)]:=by
   simp only[cl,List.map_cons,List.map_nil];rw[UInt8.toNat_ofNat',(aa:(48+c)%2^8=48+c)]
  have done:∀(a:Fr) (j:af) (t:V) (n:Nat),rd 3 a=b→rd 8 a=ah (i:Int)→rd 7 a=t→rd 9 a=.int .u32 (d:Int)→aI j 1 t (cl (ds (10*u+c))) n→(ds (10*u+c)).length≤(ds u).length+1→(n=0∨n≠g3)→aI j 1 b (bt f) g3→g3<j.next→
   bx (pc 68 4) (fq (oY (AE p w i b f g3) (s+1)) R) a j:=by
   intro a j t n I J a7 K ar al aw am a0;simp(disch:=assumption)only[go_sem,ae2,K,jG,be];rw[gC _ aa];refine⟨s,mm s,s,t,n,rfl,aa,?_,?_,?_,?_,?_,?_,aw,am,a0⟩
   iterate 4 simp only[go_sem,I,J,a7]
   ·rw[←y,←o,E];exact ar
   ·rw[←y,←o,E];omega
  have append:ds (10*u+c)=ds u++[gJ (48+c)]→∀(a:Fr),rd 3 a=b→rd 8 a=ah (i:Int)→rd 9 a=.int .u32 (d:Int)→
   gj (some 60) (kf eP 5 [ex 7 (bS (rd 60))] (iT 5 (fq (bx (pc 68 4) (fq (oY (AE p w i b f g3) (s+1)) R)) (fq (oY (AE p w i b f g3) (s+1)) R)) .norm)) a
    (fH 1 1 [r,.slice G.next 0 1 (.known 1)] (G.push (.cells [V.int .u8 ((48+c:Nat):Int)] 0))):=by
   intro he a I J K;refine NB h rfl ⟨by rw[jc];omega,ag⟩ fun t j n U W b0 b1=>?_
   have b2:aI j 1 b (bt f) g3:=B.other h (g8 b1) b0 D;simp only[go_sem];refine done _ _ t n ?_ ?_ ?_ ?_ ?_ ?_ ?_ b2 aa
   iterate 4 simp only[go_sem,I,J,K]
   ·rw[he];rw[a']at U;unfold cl at U⊢;rw[List.map_append];exact U
   ·rw[he,aS];simp
   ·rcases W with⟨_,W⟩|⟨W,b'⟩
    ·right;omega
    ·rw[b'];exact D
  by_cases L:0<(ds u).length
  ·have bd:u≠0:=fun e=>by rw[e,nh]at L;exact absurd L (Nat.lt_irrefl _)
   simp(disch:=omega)only[go_sem,Fh,g,l,m,v,dt,T,bA,P,jG,mB,uG,←o,gC,N,O,S,C];refine append (Bm u c ab (.inl bd)) _ ?_ ?_ ?_
   iterate 3 simp only[go_sem,l,m,g]
  ·have Q:u=0:=oa fun e=>L (List.length_pos_iff.2 (Bl e))
   by_cases M:c=0
   ·simp(disch:=omega)only[go_sem,Fh,g,l,m,v,dt,df,T,bA,P,jG,mB,uG,←o,gC,N,O,S,C];refine done _ _ r q ?_ ?_ ?_ ?_ ?_ ?_ D B ad
    iterate 4 simp only[go_sem,l,m,v,g]
    ·rw[Q,M];rw[Q]at h;exact h
    ·rw[Q,M];exact sr _
   ·simp(disch:=omega)only[go_sem,Fh,g,l,m,v,dt,df,T,bA,P,jG,mB,uG,←o,gC,N,O,S,C];refine append (Bm u c ab (.inr M)) _ ?_ ?_ ?_
    iterate 3 simp only[go_sem,l,m,g]
theorem afM(a:List Nat)(d:Nat):bt a++[V.int .u32 (d:Int)]=bt (a++[d]):=by simp[bt]
theorem an7(n k:Nat)(x:n<2^k)(L:k≤30000000)(F:Fr)(H:af)(R:X→Fr→af→Prop)(A:rd 3 F=.an)(B:rd 4 F=mag (aN n))(G:H.next≠0)
 (I:∀o f v g b,rd 3 o=v→aI f 1 v (bt b) g→pv b=n→(∀p∈b,p<1000000000)→b.length≤10000000→g<f.next→R (.exit 0) o f):
 bx (.loop (pc 68 3)) R F H:=by
 refine bH (fun j e i=>∃(m:Nat) (b:List Nat) (v:V) (g:Nat),j=m∧rd 3 e=v∧rd 4 e=mag (aN m)∧aI i 1 v (bt b) g∧pv b+1000000000^b.length*m=n∧m*2^(29*b.length)≤n∧m≤n∧(∀p∈b,p<1000000000)∧b.length≤10000000∧g<i.next) n
  ⟨n,[],.an,0,rfl,A,B,.nil,by simp[pv],aB,aE _,(fun _ h=>by cases h),aB,ld G⟩ ?_
 rintro j e i ⟨m,b,v,g,rfl,q,r,t,z,w,u,y,hl,K⟩;rw[ae1];by_cases c:j=0
 ·subst c;simp(disch:=omega)only[go_sem,r,sU,jT,df];refine I _ _ v g b ?_ t (by simpa using z) y hl K;simp only[go_sem,q]
 ·have T:=sS c;have O:dW j:=dW.of (eY u x) L;have s:=RQ (aN j) 1000000000 (gP _) ⟨ag,ag⟩ (by have:=O.len;omega);rw[fM]at s;have S:29*b.length<k:=by
   refine(Nat.pow_lt_pow_iff_right (a:=2) ag).1 (eY ?_ x);refine cy ?_ w;exact Nat.le_mul_of_pos_left _ (ld c)
  simp(disch:=omega)only[go_sem,ae0,r,dt];refine use s ?_;simp(disch:=omega)only[go_sem,aeT,q];refine NB t rfl ⟨by rw[hO];omega,ag⟩ fun P Q C l d U W=>?_
  simp only[go_sem,aeS];have J:=Nat.mod_add_div j 1000000000;refine⟨j/1000000000,Nat.div_lt_self (ld c) ag,j/1000000000,b++[j%1000000000],P,C,rfl,?_,?_,?_,?_,?_,?_,?_,?_,?_⟩
  iterate 2 simp only[go_sem]
  ·rw[←afM];exact l
  ·rw[aoz b _ _ J];exact z
  ·rw[aS,gH,bD,dF,gw,←bT,tJ];refine cy (dn _ ?_) w;have:2^29≤1000000000:=ag;have D:=fy (j/1000000000) this;have E:=wM j 1000000000;exact cy D E
  ·exact cy (jn _ _) u
  ·intro p N;rcases gI.1 N with h|h
   ·exact y p h
   ·rw[dj.1 h];exact eU _ ag
  ·rw[aS,gH];omega
  ·rcases d with⟨_,d⟩|⟨_,d⟩
   ·generalize bt b++[V.int .u32 ((j%1000000000:Nat):Int)]=Y at l
    cases l with
    |nil=>omega
    |cells _ _ _ _ _ M _=>exact M
   ·rw[d];omega
theorem al1(a:List Nat)(P:∀p∈a,p<1000000000)(hl:a.length≤10000000)(c:V)(g3:Nat)(F:Fr)(H:af)(R:X→Fr→af→Prop)(G:aI H 1 c (bt a) g3)(L:g3<H.next)(z:rd 3 F=c)(A:rd 7 F=.an)(B:rd 8 F=ah ((a.length:Int)-1))
 (J:∀f j v g,rd 7 f=v→aI j 1 v (cl (ds (pv a))) g→R (.exit 2) f j):
 bx (.loop (pc 68 9)) R F H:=by
 refine bH (fun k b d=>∃(v:V) (g:Nat),rd 3 b=c∧rd 7 b=v∧rd 8 b=ah ((k:Int)-1)∧k≤a.length∧aI d 1 v (cl (ds (pv (a.drop k)))) g∧(ds (pv (a.drop k))).length≤9*(a.length-k)∧(g=0∨g≠g3)∧aI d 1 c (bt a) g3∧g3<d.next) a.length
  ⟨.an,0,z,A,B,aE _,?_,?_,.inl rfl,G,L⟩ ?_
 ·rw[jB (aE _),show pv []=0 from rfl,nh];exact .nil
 ·rw[jB (aE _),show pv []=0 from rfl,nh];simp
 rintro k b d ⟨v,g,C,m,n,U,q,W,O,M,N⟩;rw[ae6];cases k with
 |zero=>
  simp(disch:=omega)only[go_sem,n,dt];refine J _ _ v g ?_ q;simp only[go_sem,m]
 |succ i=>
  have o:rd 8 b=ah (i:Int):=by rw[n];congr 1;omega
  have hi:i<a.length:=aa;have r:a.getD i 0<1000000000:=by
   refine P _ ?_;rw[bX,cn hi];exact wI hi
  have e:=aoy hi;simp(disch:=omega)only[go_sem,ae5,o,df];refine afO (a.getD i 0) (pv (a.drop (i+1))) r i c v g _ _ _ a g3 M hi rfl aa q O N ?_ ?_ ?_ ?_ ?_
  iterate 4 simp only[go_sem,C,m,o]
  intro S T Q D s w u l y t x;rw[←e]at l;rw[fA];have K:(ds (pv (a.drop i))).length≤9*(a.length-i):=by
   by_cases E:pv (a.drop (i+1))=0
   ·rw[e,E,fc,cE];have:=qn (n:=a.getD i 0) (k:=9) r;omega
   ·refine qn ?_;have Y:pv (a.drop (i+1))<10^(9*(a.length-(i+1))):=by
     refine tI fun h=>?_
     have:=af' h;omega
    rw[e,(aa:9*(a.length-i)=9*(a.length-(i+1))+9),gw];have I:(10:Nat)^9=1000000000:=rfl;rw[I];omega
  simp(disch:=omega)only[go_sem,ae4,w,aH];refine⟨i,mm i,Q,D,?_,?_,?_,aa,l,K,y,t,x⟩
  iterate 3 simp only[go_sem,s,u]
theorem Ft(z:Int)(o:z.natAbs<2^a)(j:a≤30000000):aW 68 [ct z] (.str (dec z.natAbs)):=by
 refine cO (.cons (ju _) .nil) (.str _) (aT alB ?_);by_cases h:z.natAbs=0
 ·have hl:(aN z.natAbs).length=0:=by rw[h];exact sU
  simp(disch:=omega)only[go_sem,d68,M4,ct,dL,hl,jT,decide_true];rw[h];rfl
 ·have hl:=sS h;simp(disch:=omega)only[go_sem,d68,M4,aeZ,aeY,aeX,ct,dL,df];refine an7 z.natAbs a o j _ _ _ ?_ ?_ ?_ ?_
  iterate 2 simp only[go_sem]
  ·exact uY _
  intro q s v g p b c m l k f;have d:=c.len ag;rw[hO,qc]at d;rw[fA];simp(disch:=omega)only[go_sem,aeW,aeV,b,d,aH];refine al1 p l k v g _ _ _ c f ?_ ?_ ?_ ?_
  iterate 3 simp only[go_sem,b]
  intro r t w u e i;rw[fA];have n:=i.str;simp(disch:=omega)only[go_sem,aeU,e,n];rw[m];unfold dec;rw[aj h]
theorem x8{s t:List UInt8}(h:s.length+t.length≤9223372036854775807):pQ (qp .add) [.str s,.str t]=some (.val (.str (s++t))):=by
 show aQ (bM (gv (cr s) (cr t)) 9223372036854775807) (some (aY.val (.str (cW s t))))=_;rw[iP,gO,gO,show(s.length.add t.length).ble 9223372036854775807=true from jH h];rfl
theorem uH(q:Rat)(d:a_ a q)(f:a≤30000000):aW 22 [bw q] (.str (bh q)):=by
 refine cO (.cons (fX _) .nil) (.str _) (aT OX ?_);have i:=Ft q.num d.num f;have e:=Ft (q.den:Int) (by rw[dB];exact d.den) f;rw[dB]at e;have l:=zg d.num;have m:=zg d.den;have g:pQ (qp .add) [.str [45],.str (dec q.num.natAbs)]=some (.val (.str ([45]++dec q.num.natAbs))):=x8 (by simp;omega);have h:pQ (qp .add) [.str [47],.str (dec q.den)]=some (.val (.str ([47]++dec q.den))):=x8 (by simp;omega);have j:pQ (qp .add) [.str ([45]++dec q.num.natAbs),.str ([47]++dec q.den)]=some (.val (.str (([45]++dec q.num.natAbs)++([47]++dec q.den)))):=x8 (by simp;omega);have k:pQ (qp .add) [.str (dec q.num.natAbs),.str ([47]++dec q.den)]=some (.val (.str (dec q.num.natAbs++([47]++dec q.den)))):=x8 (by simp;omega);simp only[go_sem,d22,LM,bw,aV,sP];refine use i ?_;by_cases c:q.num<0
 ·by_cases b:q.den=1
  ·have hl:(aN (dd q)).length=0:=by rw[ng b];exact sU
   simp(disch:=first|assumption|omega)only[xh,xg,xe,go_sem,↓reduceIte,kR,dt,df,hl,g]
   simp[bh,c,b]
  ·have hl:0<(aN (dd q)).length:=by rw[jK b];exact sS q.den_nz
   simp(disch:=first|assumption|omega)only[xh,xg,xe,go_sem,↓reduceIte,kR,dt,g]
   rw[jK b,←GG];refine use e ?_;simp only[go_sem,h,j];simp[bh,c,b]
 ·by_cases b:q.den=1
  ·have hl:(aN (dd q)).length=0:=by rw[ng b];exact sU
   simp(disch:=first|assumption|omega)only[xh,xg,xe,go_sem,↓reduceIte,kR,df,hl]
   simp[bh,c,b]
  ·have hl:0<(aN (dd q)).length:=by rw[jK b];exact sS q.den_nz
   simp(disch:=first|assumption|omega)only[xh,xg,xe,go_sem,↓reduceIte,kR,dt,df]
   rw[jK b,←GG];refine use e ?_;simp only[go_sem,h,k];simp[bh,c,b]
section
open Go.au Tryz
set_option maxRecDepth 100000
attribute [local irreducible] rd kc ex bE bF re rg mv bS pick alloc box bi bs be bp st fa cz cN dI c8 dN eB eA ms dx ek ej dY mx mn dX ap ee cJ dZ d_ cm ec ext er neg Go.au.not en ei ep eo ey eu ef ew dR dP u8
def ae_:=ai 7 f7 0
def d7:=aU 7 f7
def fP:=aR f7 7
def afm:=ai 8 f8 0
def d8:=aU 8 f8
def mI:=aR f8 8
def VP:=ai 11 f11 0
def VQ:=ai 11 f11 1
def VR:=ai 11 f11 2
def K1:=ai 11 f11 3
def d11:=aU 11 f11
def qD:=aR f11 11
def adN:=ai 42 f42 0
def adO:=ai 42 f42 1
def d42:=aU 42 f42
def alk:=aR f42 42
def adV:=ai 47 f47 0
def adW:=ai 47 f47 1
def adX:=ai 47 f47 2
def adY:=ai 47 f47 3
def adZ:=ai 47 f47 4
def ad0:=ai 47 f47 5
def ad1:=ai 47 f47 6
def ad2:=ai 47 f47 7
def ad3:=ai 47 f47 8
def ad4:=ai 47 f47 9
def d47:=aU 47 f47
def aln:=aR f47 47
def ad5:=ai 49 f49 0
def ad6:=ai 49 f49 1
def ad7:=ai 49 f49 2
def ad8:=ai 49 f49 3
def ad9:=ai 49 f49 4
def ad_:=ai 49 f49 5
def d49:=aU 49 f49
def alo:=aR f49 49
def ad':=ai 50 f50 0
def aea:=ai 50 f50 1
def aeb:=ai 50 f50 2
def aec:=ai 50 f50 3
def aed:=ai 50 f50 4
def aee:=ai 50 f50 5
def d50:=aU 50 f50
def alp:=aR f50 50
def aef:=ai 51 f51 0
def aeg:=ai 51 f51 1
def aeh:=ai 51 f51 2
def d51:=aU 51 f51
def alq:=aR f51 51
def aei:=ai 52 f52 0
def d52:=aU 52 f52
def alr:=aR f52 52
def aej:=ai 53 f53 0
def d53:=aU 53 f53
def als:=aR f53 53
def aeK:=ai 62 f62 0
def aeL:=ai 62 f62 1
def M3:=ai 62 f62 2
def aeM:=ai 62 f62 3
def aeN:=ai 62 f62 4
def aeO:=ai 62 f62 5
def d62:=aU 62 f62
def O8:=aR f62 62
def aeQ:=ai 64 f64 0
def d64:=aU 64 f64
def alz:=aR f64 64
def afx:=ai 98 f98 0
def afy:=ai 98 f98 1
def afz:=ai 98 f98 2
def afA:=ai 98 f98 3
def afB:=ai 98 f98 4
def afC:=ai 98 f98 5
def afD:=ai 98 f98 6
def d98:=aU 98 f98
def Pa:=aR f98 98
def Vw:=ai 116 f116 0
def Vx:=ai 116 f116 1
def VB:=ai 116 f116 2
def K0:=ai 116 f116 3
def VC:=ai 116 f116 4
def VD:=ai 116 f116 5
def VE:=ai 116 f116 6
def VF:=ai 116 f116 7
def VG:=ai 116 f116 8
def VH:=ai 116 f116 9
def Vy:=ai 116 f116 10
def Vz:=ai 116 f116 11
def VA:=ai 116 f116 12
def d116:=aU 116 f116
def ajK:=aR f116 116
def Ls:=ai 182 f182 0
def Ex:=ai 182 f182 1
def Ym:=ai 182 f182 2
def Yn:=ai 182 f182 3
def Yo:=ai 182 f182 4
def Yp:=ai 182 f182 5
def Yq:=ai 182 f182 6
def Yr:=ai 182 f182 7
def Lt:=ai 182 f182 8
def d182:=aU 182 f182
def akf:=aR f182 182
def Ys:=ai 183 f183 0
def Yt:=ai 183 f183 1
def Yv:=ai 183 f183 2
def Yw:=ai 183 f183 3
def Ey:=ai 183 f183 4
def Yx:=ai 183 f183 5
def Yy:=ai 183 f183 6
def Yz:=ai 183 f183 7
def Ez:=ai 183 f183 8
def YA:=ai 183 f183 9
def Yu:=ai 183 f183 10
def d183:=aU 183 f183
def akg:=aR f183 183
def afI:=ai 9 f9 0
def d9:=aU 9 f9
def nW:=aR f9 9
end
end Go.Proofs.YtddhncjmaahodaaGreatDoor
namespace Go.aF
def rl:List Nat→List Nat→Int
 |x::a,y::b=>if x=y then rl a b else if y<x then-1 else 1
 |[],[]=>0
 |[],_::_=>1
 |_::_,[]=> -1
def ord(a b:List Nat):Int:=if a.sum=b.sum then rl a.reverse b.reverse else if a.sum<b.sum then-1 else 1
theorem Rh:∀a b,rl b a= -rl a b
 |[],[]=>rfl
 |[],_::_=>rfl
 |_::_,[]=>rfl
 |x::a,y::b=>by
  simp only[rl];by_cases h:x=y
  ·subst h;simp[Rh a b]
  ·rw[aj h,aj (fun e=>h e.symm)];by_cases c:y<x
   ·rw[ak c,aj aa];rfl
   ·rw[aj c,ak aa]
theorem Rj:∀ {a b:List Nat},rl a b=0→a=b
 |[],[],_=>rfl
 |[],_::_,h=>by cases h
 |_::_,[],h=>by cases h
 |x::a,y::b,h=>by
  simp only[rl]at h;by_cases e:x=y
  ·rw[ak e]at h;rw[e,Rj h]
  ·rw[aj e]at h;split at h<;>cases h
theorem apo(a b:List Nat):rl a b= -1∨rl a b=0∨rl a b=1:=by
 induction a generalizing b with
 |nil=>cases b with
  |nil=>exact .inr (.inl rfl)
  |cons y b=>exact .inr (.inr rfl)
 |cons x a c=>
  cases b with
  |nil=>exact .inl rfl
  |cons y b=>
   simp only[rl];split
   ·exact c b
   ·split
    ·exact .inl rfl
    ·exact .inr (.inr rfl)
theorem Ri:∀ {a b c:List Nat},0≤rl a b→0≤rl b c→0≤rl a c
 |[],[],_,_,h=>h
 |[],_::_,[],_,h=>by simp[rl]at h
 |[],_::_,_::_,_,_=>by simp[rl]
 |_::_,[],_,h,_=>by simp[rl]at h
 |_::_,_::_,[],_,h=>by simp[rl]at h
 |x::a,y::b,z::c,f,d=>by
  simp only[rl]at*;by_cases g:x=y
  ·subst g;rw[ak rfl]at f;by_cases e:x=z
   ·subst e;rw[ak rfl]at d⊢;exact Ri f d
   ·rw[aj e]at d⊢;exact d
  ·rw[aj g]at f;have i:x<y:=by
    by_cases h:y<x
    ·rw[ak h]at f;exact absurd f ag
    ·omega
   by_cases e:y=z
   ·subst e;rw[aj g,aj aa];decide
   ·rw[aj e]at d;have j:y<z:=by
     by_cases h:z<y
     ·rw[ak h]at d;exact absurd d ag
     ·omega
    rw[aj aa,aj aa];decide
theorem G3(a b:List Nat):ord b a= -ord a b:=by
 unfold ord;by_cases h:a.sum=b.sum
 ·rw[ak h,ak h.symm,Rh]
 ·rw[aj h,aj (fun e=>h e.symm)];by_cases c:a.sum<b.sum
  ·rw[ak c,aj aa];rfl
  ·rw[aj c,ak aa]
variable{d:List Nat}
theorem anZ{a:List Nat}(h:ord a d=0):a=d:=by
 unfold ord at h;split at h
 ·have:=Rj h;simpa using this
 ·split at h<;>cases h
theorem Qo(a b:List Nat):ord a b= -1∨ord a b=0∨ord a b=1:=by
 unfold ord;split
 ·exact apo _ _
 ·split
  ·exact .inl rfl
  ·exact .inr (.inr rfl)
theorem anY{a c:List Nat}(f:0≤ord a d)(b:0≤ord d c):0≤ord a c:=by
 unfold ord at*;by_cases g:a.sum=d.sum
 ·rw[ak g]at f;by_cases e:d.sum=c.sum
  ·rw[ak e]at b;rw[ak (g.trans e)];exact Ri f b
  ·rw[aj e]at b;rw[aj aa,g];exact b
 ·rw[aj g]at f;have:d.sum<a.sum:=by
   by_cases h:a.sum<d.sum
   ·rw[ak h]at f;exact absurd f ag
   ·omega
  have i:c.sum≤d.sum:=by
   by_cases e:d.sum=c.sum
   ·omega
   ·rw[aj e]at b;by_cases h:d.sum<c.sum
    ·rw[ak h]at b;exact absurd b ag
    ·omega
  rw[aj aa,aj aa];decide
abbrev ax:=Rat×List Nat
def ic(a b:ax):Bool:=decide (0≤ord a.2 b.2)
def iH(l:List ax):List ax:=if _:l.length<2 then l else sj (iH (l.take (l.length/2))) (iH (l.drop (l.length/2))) ic
termination_by l.length
decreasing_by
 ·rw[dD];omega
 ·rw[gZ];omega
variable{l:List ax}
theorem yl(h:l.length<2):iH l=l:=by rw[iH];simp[h]
theorem CR(h:¬l.length<2):iH l=sj (iH (l.take (l.length/2))) (iH (l.drop (l.length/2))) ic:=by rw[iH];simp[h]
theorem Ai(l:List ax):(iH l).Perm l:=by
 induction d:l.length using jD generalizing l with
 |ind n a=>
  subst d;by_cases h:l.length<2
  ·rw[yl h]
  ·rw[CR h];refine(List.merge_perm_append ic).trans ?_;have b:=a _ (by rw[dD];omega) (l.take (l.length/2)) rfl;have c:=a _ (by rw[gZ];omega) (l.drop (l.length/2)) rfl;have:=b.append c;rwa[p9]at this
theorem yj(l:List ax):(iH l).length=l.length:=(Ai l).length_eq
theorem aqX(a b c:ax)(d:ic a b=true)(e:ic b c=true):ic a c=true:=by
 simp only[ic,decide_eq_true_eq]at*;exact anY d e
theorem aqW(a b:ax):(ic a b||ic b a)=true:=by
 simp only[ic,r3,decide_eq_true_eq];rw[G3 a.2 b.2];rcases Qo a.2 b.2 with h|h|h<;>rw[h]<;>simp
theorem aqu(l:List ax):(iH l).Pairwise fun a b=>ic a b=true:=by
 induction d:l.length using jD generalizing l with
 |ind n c=>
  subst d;by_cases h:l.length<2
  ·rw[yl h]
   match l,h with
   |[],_=>exact .nil
   |[a],_=>simp
  ·rw[CR h];exact List.pairwise_merge aqX aqW _ _ (c _ (by rw[dD];omega) _ rfl) (c _ (by rw[gZ];omega) _ rfl)
def gA(c:Rat)(e:List Nat):List ax→Rat×List ax
 |[]=>(c,[])
 |t::l=>if ord e t.2=0 then gA (c+t.1) e l else(c,t::l)
theorem yT(c:Rat)(e:List Nat)(l:List ax):(gA c e l).2.length≤l.length:=by
 induction l generalizing c with
 |nil=>exact aE _
 |cons t l a=>
  unfold gA;split
  ·exact cy (a _) (sr _)
  ·exact aE _
def bB(l:List ax):List ax:=match l with
 |[]=>[]
 |t::l=>if(gA t.1 t.2 l).1.num≠0 then((gA t.1 t.2 l).1,t.2)::bB (gA t.1 t.2 l).2 else bB (gA t.1 t.2 l).2
termination_by l.length
decreasing_by
 all_goals
  have:=yT t.1 t.2 l;simp only[cL];omega
theorem xE:bB []=[]:=by rw[bB]
theorem vv(t:ax)(l:List ax):bB (t::l)=if(gA t.1 t.2 l).1.num≠0 then((gA t.1 t.2 l).1,t.2)::bB (gA t.1 t.2 l).2 else bB (gA t.1 t.2 l).2:=by rw[bB]
def j5(l:List ax):List ax:=bB (iH l)
def Canon(l:List ax):Prop:=(l.Pairwise fun a b=>ord a.2 b.2=1)∧∀t∈l,t.1.num≠0
variable{z:Rat}
theorem AN{t:ax}(h:t∈(gA z d l).2):t∈l:=by
 induction l generalizing z with
 |nil=>exact h
 |cons u l a=>
  unfold gA at h;split at h
  ·exact List.mem_cons_of_mem _ (a h)
  ·exact h
theorem S8(c:Rat)(e:List Nat)(l:List ax):∃m,l=m++(gA c e l).2:=by
 induction l generalizing c with
 |nil=>exact⟨[],rfl⟩
 |cons u l b=>
  unfold gA;split
  ·obtain⟨m,a⟩:=b (c+u.1);exact⟨u::m,by rw[eS,←a]⟩
  ·exact⟨[],rfl⟩
theorem S6{t:ax}{m:List ax}(h:(gA z d l).2=t::m):ord d t.2≠0:=by
 induction l generalizing z with
 |nil=>cases h
 |cons u l b=>
  unfold gA at h;split at h
  ·exact b h
  ·rename_i a;have h:u::l=t::m:=h;cases h;exact a
theorem OD{t:ax}(h:t∈bB l):∃u∈l,t.2=u.2:=by
 induction d:l.length using jD generalizing l with
 |ind n e=>
  subst d;cases l with
  |nil=>rw[xE]at h;cases h
  |cons u l=>
   have hl:=yT u.1 u.2 l;have a:t∈bB (gA u.1 u.2 l).2→∃v∈u::l,t.2=v.2:=fun h=>by
    obtain⟨v,b,c⟩:=e _ (by simp only[cL];omega) h rfl;exact⟨v,List.mem_cons_of_mem _ (AN b),c⟩
   rw[vv]at h;split at h
   ·rcases g7.1 h with h|h
    ·exact⟨u,aB,by rw[h]⟩
    ·exact a h
   ·exact a h
theorem Qn{a:List Nat}(h:0≤ord a d)(b:ord a d≠0):ord a d=1:=by
 rcases Qo a d with e|e|e
 ·rw[e]at h;exact absurd h ag
 ·exact absurd e b
 ·exact e
theorem ahR(h:l.Pairwise fun a b=>ic a b=true):Canon (bB l):=by
 induction q:l.length using jD generalizing l with
 |ind n z=>
  subst q;cases l with
  |nil=>rw[xE];exact⟨.nil,fun _ h=>by cases h⟩
  |cons u l=>
   have hl:=yT u.1 u.2 l;rw[tD]at h;obtain⟨m,p⟩:=S8 u.1 u.2 l;have f:(gA u.1 u.2 l).2.Pairwise fun a b=>ic a b=true:=by
    have:=h.2;rw[p]at this;exact(wK.1 this).2.1
   have g:=z _ (by simp only[cL];omega) f rfl;rw[vv];split
   ·rename_i k;refine⟨tD.2 ⟨fun t ht=>?_,g.1⟩,fun t ht=>?_⟩
    ·obtain⟨v,hv,e⟩:=OD ht;have o:0≤ord u.2 v.2:=by simpa [ic]using h.1 v (AN hv)
     show ord u.2 t.2=1;rw[e];refine Qn o fun d=>?_
     have s:=anZ d;cases c:(gA u.1 u.2 l).2 with
     |nil=>rw[c]at hv;cases hv
     |cons x r=>
      have i:=S6 c;rw[c]at hv f;rcases g7.1 hv with j|hv
      ·rw[j]at d;exact i d
      ·have y:0≤ord x.2 v.2:=by simpa [ic]using(tD.1 f).1 v hv
       have w:0≤ord u.2 x.2:=by simpa [ic]using h.1 x (AN (by rw[c];simp))
       rw[←s,G3]at y;have:=Qn w i;omega
    ·rcases g7.1 ht with e|ht
     ·rw[e];exact k
     ·exact g.2 t ht
   ·exact g
theorem aok(l:List ax):Canon (j5 l):=ahR (aqu l)
theorem aoo{t:ax}(h:t∈j5 l):∃u∈l,t.2=u.2:=by
 obtain⟨u,a,b⟩:=OD h;exact⟨u,(Ai l).mem_iff.1 a,b⟩
variable{h:Nat}
theorem S7{a:Nat}(b:a_ a z)(hl:∀t∈l,a_ h t.1):a_ (a+(h+1)*l.length) (gA z d l).1:=by
 induction l generalizing z a with
 |nil=>simpa [gA]using b
 |cons u l f=>
  unfold gA;split
  ·have c:=b.add (hl u aB);have:=f c (fun t e=>hl t (by simp[e]));refine this.mono ?_;rw[cL,bD];omega
  ·exact b.mono aa
variable{a:Nat}
theorem ahT{l:List ax}(hl:∀t∈l,a_ a t.1)(b:l.length≤h):∀t∈bB l,a_ ((a+1)*h) t.1:=by
 induction f:l.length using jD generalizing l with
 |ind m g=>
  subst f;cases l with
  |nil=>rw[xE];intro t d;cases d
  |cons u l=>
   have i:=yT u.1 u.2 l;have c:=g _ (by simp only[cL];omega) (l:=(gA u.1 u.2 l).2) (fun t ht=>hl t (List.mem_cons_of_mem _ (AN ht))) (by simp at b;omega) rfl;intro t ht;rw[vv]at ht;split at ht
   ·rcases g7.1 ht with e|ht
    ·rw[e];refine(S7 (hl u aB) (fun t ht=>hl t (by simp[ht]))).mono ?_;simp only[cL]at b;have:=fy (a+1) b;rw[bD]at this;omega
    ·exact c t ht
   ·exact c t ht
theorem aop{k:Nat}(hl:∀t∈l,a_ k t.1):∀t∈j5 l,a_ ((k+1)*l.length) t.1:=
 ahT (fun t a=>hl t ((Ai l).mem_iff.1 a)) (Nat.le_of_eq (yj l))
theorem ahS(l:List ax):(bB l).length≤l.length:=by
 induction a:l.length using jD generalizing l with
 |ind n b=>
  subst a;cases l with
  |nil=>rw[xE];exact aE _
  |cons u l=>
   have hl:=yT u.1 u.2 l;have c:=b _ (by simp only[cL];omega) (gA u.1 u.2 l).2 rfl;rw[vv];split
   ·simp only[cL];omega
   ·simp only[cL];omega
theorem aom(l:List ax):(j5 l).length≤l.length:=by
 have:=ahS (iH l);rwa[yj]at this
end Go.aF
namespace Go.Proofs.YtddhncjmaahodaaGreatDoor
open Go.au Go.aF
def cv(e:List Nat):List V:=e.map fun n:Nat=>V.int .i64 (n:Int)
def b6(e:List Nat):V:=.row e.length (cv e)
theorem j0(e:List Nat):(cv e).length=e.length:=by simp[cv]
variable{d:List Nat}{a:Nat}
theorem oF(h:a<d.length):cK (cv d) a=some (ah ((d.getD a 0:Nat):Int)):=by
 rw[gF];simp[cv,h]
theorem FN(l:List Nat):bY (cv l):=bY.iff.2 fun v h=>by
 simp only[cv,k_]at h;obtain⟨d,_,rfl⟩:=h;exact .int _ _
theorem oy(l:List Nat):bz (b6 l):=.row _ (FN l)
@[go_sem]theorem avo(l:List Nat):cT (b6 l)=some (.val (ah (l.length:Int))):=rfl
@[go_sem]theorem au5(l:List Nat):bg (b6 l)=true:=rfl
@[go_sem]theorem auo(l:List Nat):cellsOf (b6 l)=[b6 l]:=rfl
@[go_sem]theorem avT(l:List Nat):V.one (b6 l)=true:=rfl
variable{q:Int}{n:IntKind}
theorem oD(h:0≤q∧q<d.length):dJ none 1 [b6 d,.int n q]=some (.val (.cY (cv d) q.toNat)):=by
 rw[b6,kh h,dF]
theorem Am{l:List Nat}{i:Nat}(h:i<l.length):(l.take (i+1)).sum=(l.take i).sum+l.getD i 0:=by
 rw[kQ h,List.sum_append];simp[bX,h]
theorem Al(l:List Nat)(i:Nat):(l.take i).sum≤l.sum:=by
 have:=congrArg List.sum (p9 i l);rw[List.sum_append]at this;omega
theorem Cz(h:a<d.length):(d.take (a+1)).reverse=d.getD a 0::(d.take a).reverse:=by
 rw[kQ h];simp[bX,h]
theorem G4(a b:List Nat)(hl:a.length=b.length)(I:a.length≤1000000000)(F:a.sum≤1000000000000)(G:b.sum≤1000000000000):aW 183 [b6 a,b6 b] (ah (ord a b)):=by
 refine cO (.cons (oy _) (.cons (oy _) .nil)) (.int _ _) (aT akg ?_);simp only[go_sem,d183,Yu,YA];refine bH (fun k c r=>∃i:Nat,rd 0 c=b6 a∧rd 1 c=b6 b∧rd 5 c=ah (((a.take i).sum:Nat):Int)∧rd 6 c=ah (((b.take i).sum:Nat):Int)∧rd 7 c=ah (i:Int)∧k=a.length-i∧i≤a.length) a.length ⟨0,?_,?_,?_,?_,?_,rfl,bQ _⟩ ?_
 iterate 2 simp only[go_sem]
 ·simp only[go_sem,q6];rfl
 ·simp only[go_sem,q6];rfl
 ·simp only[go_sem];rfl
 rintro k c r ⟨i,e,p,f,g,m,rfl,hi⟩;rw[Yv];by_cases y:i<a.length
 ·have D:=Al a (i+1);have E:=Al b (i+1);have d:=Am y;have x:=Am (l:=b) (i:=i) aa;simp(disch:=omega)only[go_sem,Yt,Ys,e,p,f,g,m,dt,oD,bJ,oF,aH,true_and];refine⟨a.length-(i+1),aa,i+1,?_,?_,?_,?_,?_,rfl,aa⟩
  iterate 2 simp only[go_sem,e,p]
  ·simp only[go_sem];rw[d];rfl
  ·simp only[go_sem];rw[x];rfl
  ·simp only[go_sem];rfl
 ·have z:i=a.length:=aa;subst z;rw[b_ (aE _)]at f;rw[b_ aa]at g;by_cases u:a.sum=b.sum
  ·simp(disch:=omega)only[go_sem,Ez,Yz,e,f,g,m,dt,df,aH];have n:ord a b=rl a.reverse b.reverse:=ak u;refine bH (fun k c r=>rd 0 c=b6 a∧rd 1 c=b6 b∧rd 8 c=ah ((k:Int)-1)∧k≤a.length∧rl (a.take k).reverse (b.take k).reverse=ord a b) a.length ⟨?_,?_,?_,aE _,?_⟩ ?_
   iterate 3 simp only[go_sem,e,p]
   ·rw[b_ (aE _),b_ aa,n]
   rintro k w C ⟨l,d,s,H,h⟩;rw[Yx];cases k with
   |zero=>
    simp(disch:=omega)only[go_sem,Yy,s,dt];rw[←h];rfl
   |succ j=>
    have o:rd 8 w=ah (j:Int):=by rw[s];congr 1;omega
    have A:j<a.length:=aa;have B:j<b.length:=aa;rw[Cz A,Cz B]at h;by_cases q:a.getD j 0=b.getD j 0
    ·simp(disch:=omega)only[go_sem,Ey,Yw,l,d,o,dt,df,oD,bJ,oF,aH];refine⟨j,mm j,?_,?_,?_,aa,?_⟩
     iterate 3 simp only[go_sem,l,d]
     ·rw[←h];simp only[rl];rw[ak q]
    ·by_cases v:b.getD j 0<a.getD j 0
     ·simp(disch:=omega)only[go_sem,Ey,l,d,o,dt,df,oD,bJ,oF];rw[←h];simp only[rl];rw[aj q,ak v]
     ·simp(disch:=omega)only[go_sem,Ey,l,d,o,df,oD,bJ,oF];rw[←h];simp only[rl];rw[aj q,aj v]
  ·have n:ord a b=if a.sum<b.sum then-1 else 1:=aj u
   by_cases t:a.sum<b.sum
   ·simp(disch:=omega)only[go_sem,Ez,e,f,g,m,dt,df];rw[n,ak t]
   ·simp(disch:=omega)only[go_sem,Ez,e,f,g,m,df];rw[n,aj t]
def iu(t:ax):List V:=[.bool (decide (t.1.num<0)),mag (aN t.1.num.natAbs),aD,mag (aN (dd t.1)),b6 t.2]
def de:List ax→List V
 |[]=>[]
 |t::l=>iu t++de l
def bG(l:List ax):V:=.row l.length (de l)
theorem agZ(t:ax):bY (iu t):=.cons (.bool _) (.cons (jZ _) (.cons (.bool _) (.cons (jZ _) (.cons (oy _) .nil))))
variable{b:List V}
theorem lu{a:List V}(c:bY a)(d:bY b):bY (a++b):=bY.iff.2 fun v h=>by
 rcases gI.1 h with h|h
 ·exact bY.iff.1 c v h
 ·exact bY.iff.1 d v h
theorem N1:∀l,bY (de l)
 |[]=>.nil
 |t::l=>lu (agZ t) (N1 l)
theorem tX(l:List ax):bz (bG l):=.row _ (N1 l)
theorem pR:∀l,(de l).length=l.length*5
 |[]=>rfl
 |t::l=>by
  simp only[de,aS,pR l,cL];have:(iu t).length=5:=rfl;omega
theorem wk:∀(l m:List ax),de (l++m)=de l++de m
 |[],_=>rfl
 |t::l,m=>by simp only[eS,de,wk l m,eJ]
theorem aq1(l:List ax)(i:Nat):(de l).take (i*5)=de (l.take i):=by
 induction l generalizing i with
 |nil=>simp[de]
 |cons t l a=>
  cases i with
  |zero=>simp[de]
  |succ i=>
   rw[oe,i_];show(iu t++de l).take ((iu t).length+i*5)=iu t++de (l.take i);rw[List.take_length_add_append,a]
theorem C0(l:List ax)(i:Nat):(de l).drop (i*5)=de (l.drop i):=by
 induction l generalizing i with
 |nil=>simp[de]
 |cons t l a=>
  cases i with
  |zero=>simp[de]
  |succ i=>
   rw[oe,i_];show(iu t++de l).drop ((iu t).length+i*5)=de (l.drop i);rw[List.drop_length_add_append,a]
theorem Ic{l:List ax}{i:Nat}{t:ax}(h:l[i]? =some t):cq (eC (de l) (i*5)) 5=some (iu t):=by
 obtain⟨hi,rfl⟩:=fN.1 h;rw[kG,C0,lI hi];show cq (iu l[i]++de _) 5=_;rw[e4,ak (by simp[iu])];rfl
variable{l:List ax}
theorem Ie{t:ax}(h:l[a]? =some t):cq (eC (de l) (a*5)) 4=some (aV t.1):=by
 obtain⟨hi,rfl⟩:=fN.1 h;rw[kG,C0,lI hi];show cq (iu l[a]++de _) 4=_;rw[e4,ak (by simp[iu])];rfl
theorem yt{t:ax}(h:l[a]? =some t):cK (de l) (a*5+4)=some (b6 t.2):=by
 obtain⟨hi,rfl⟩:=fN.1 h;have:=congrArg (fun x:List V=>x[4]?) (C0 l a);simp only[q5]at this;rw[gF,this,lI hi];rfl
theorem pz(h:0≤q∧q<l.length):dJ none 5 [bG l,.int n q]=some (.val (.cY (de l) (q.toNat*5))):=kh h
@[go_sem]theorem avy(l:List ax):cT (bG l)=some (.val (ah (l.length:Int))):=rfl
@[go_sem]theorem ue(l:List ax):bg (bG l)=true:=rfl
@[go_sem]theorem auy(l:List ax):cellsOf (bG l)=[bG l]:=rfl
@[go_sem]theorem av2(l:List ax):V.one (bG l)=true:=rfl
theorem ap'(a:0≤q∧q≤l.length):slice3 (j7 5) false true false [bG l,.int n q]=some (.val (bG (l.take q.toNat))):=by
 unfold bG;rw[CN (pR l) a,aq1,dD];rw[(aa:min q.toNat l.length=q.toNat)]
theorem aqa(a:0≤q∧q≤l.length):slice3 (j7 5) true false false [bG l,.int n q]=some (.val (bG (l.drop q.toNat))):=by
 unfold bG;rw[ap9 (pR l) a,C0,gZ]
def kq(n:Nat)(l:List ax):Prop:=∀t∈l,t.2.length=n∧t.2.sum≤1000000000000
theorem kq.take(h:kq a l)(i:Nat):kq a (l.take i):=fun t b=>h t (uT b)
theorem kq.drop(h:kq a l)(i:Nat):kq a (l.drop i):=fun t b=>h t (List.mem_of_mem_drop b)
theorem kq.iH(h:kq a l):kq a (iH l):=fun t b=>h t ((Ai l).mem_iff.1 b)
variable{c:af}
theorem Om{v:V}(h:aI c 5 v (de l) a):bR c (af.zero c.next) v (bG l):=by
 obtain⟨n,b,d⟩:=h.di (H2:=af.zero c.next) ag (fun _ _ _=>kN) (cD.refl _)
 rw[pR]at d;have:n=l.length:=aa;rw[this]at b;exact b
def Dr(a b:List ax)(k:Nat)(F:Fr)(H:af):Prop:=∃(i j:Nat) (m:List ax) (v:V) (g:Nat),k=(a.length-i)+(b.length-j)∧rd 3 F=bG a∧rd 4 F=bG b∧rd 5 F=v∧rd 6 F=ah (i:Int)∧rd 7 F=ah (j:Int)∧i≤a.length∧j≤b.length∧aI H 5 v (de m) g∧m.length=i+j∧m++sj (a.drop i) (b.drop j) ic=sj a b ic
theorem drop_cons{t:ax}(h:l[a]? =some t):l.drop a=t::l.drop (a+1):=by
 obtain⟨hi,rfl⟩:=fN.1 h;exact lI hi
theorem amT(a b:List ax)(n:Nat)(hn:n≤1000000000)(D:kq n a)(S:kq n b)(hl:a.length+b.length≤100000000)(F:Fr)(H:af)(R:X→Fr→af→Prop)(ab:rd 3 F=bG a)(ac:rd 4 F=bG b)(ad:rd 5 F=.an)(ae:rd 6 F=ah 0)(al:rd 7 F=ah 0)
 (hR:∀M O v g,rd 5 M=v→aI O 5 v (de (sj a b ic)) g→R (.exit 0) M O):bx (.loop (pc 182 2)) R F H:=by
 refine bH (Dr a b) (a.length+b.length) ⟨0,0,[],.an,0,aa,ab,ac,ad,ae,al,bQ _,bQ _,.nil,rfl,aB⟩ ?_;rintro k N P ⟨i,j,m,v,g,rfl,p,q,y,r,s,hi,hj,G,a8,f⟩;have a7:=pR m;have U:∀h t,a[i]? =some t→m++t::sj (a.drop (i+1)) (b.drop j) ic=sj a b ic→rd 57 h=bO→(∀t,t<8→rd t h=rd t N)→bx (pc 182 0) (iT 1 (fq (oY (Dr a b) ((a.length-i)+(b.length-j))) R)) h P:=by
  intro h t c I C d;have a4:i<a.length:=(fN.1 c).1;have g3:=(d 3 ag).trans p;have w:=(d 4 ag).trans q;have A:=(d 5 ag).trans y;have x:=(d 6 ag).trans r;have br:=(d 7 ag).trans s;have E:=Ic c;simp(disch:=omega)only[go_sem,Ls,C,g3,A,x,pz,bJ,E];simp only[go_sem,iu];refine gW (new:=iu t) G rfl ag rfl ⟨aa,ag⟩ fun L W z K a1 a2 a3=>?_
  simp(disch:=omega)only[go_sem,x,aH];refine⟨(a.length-(i+1))+(b.length-j),aa,i+1,j,m++[t],L,z,rfl,?_,?_,?_,?_,?_,aa,hj,?_,?_,?_⟩
  iterate 3 simp only[go_sem,g3,w]
  ·simp only[go_sem];rfl
  ·simp only[go_sem,br]
  ·rw[wk];simpa [de]using K
  ·rw[aS,gH];omega
  ·rw[eJ];exact I
 have V:∀h t,b[j]? =some t→m++t::sj (a.drop i) (b.drop (j+1)) ic=sj a b ic→rd 57 h=aD→(∀t,t<8→rd t h=rd t N)→bx (pc 182 0) (iT 1 (fq (oY (Dr a b) ((a.length-i)+(b.length-j))) R)) h P:=by
  intro h t c I C d;have a5:j<b.length:=(fN.1 c).1;have g3:=(d 3 ag).trans p;have w:=(d 4 ag).trans q;have A:=(d 5 ag).trans y;have x:=(d 6 ag).trans r;have br:=(d 7 ag).trans s;have E:=Ic c;simp(disch:=omega)only[go_sem,Ls,C,w,A,br,pz,bJ,E];simp only[go_sem,iu];refine gW (new:=iu t) G rfl ag rfl ⟨aa,ag⟩ fun L W z K a1 a2 a3=>?_
  simp(disch:=omega)only[go_sem,br,aH];refine⟨(a.length-i)+(b.length-(j+1)),aa,i,j+1,m++[t],L,z,rfl,?_,?_,?_,?_,?_,hi,aa,?_,?_,?_⟩
  iterate 4 simp only[go_sem,g3,w,x]
  ·simp only[go_sem];rfl
  ·rw[wk];simpa [de]using K
  ·rw[aS,gH];omega
  ·rw[eJ];exact I
 rw[Ym];by_cases h1:i<a.length
 ·obtain⟨t,c⟩:∃t,a[i]? =some t:=⟨a[i],cn h1⟩;by_cases B:j<b.length
  ·obtain⟨u,o⟩:∃u,b[j]? =some u:=⟨b[j],cn B⟩;have J:t∈a:=eT c;have T:u∈b:=eT o;have ho:=G4 t.2 u.2 ((D t J).1.trans (S u T).1.symm) (by rw[(D t J).1];exact hn) (D t J).2 (S u T).2;have Y:=yt c;have Z:=yt o;simp(disch:=omega)only[go_sem,Ex,p,q,r,s,dt,df,pz,bJ,Y,Z];refine use ho ?_;rw[drop_cons c,drop_cons o,List.cons_merge_cons]at f;by_cases Q:0≤ord t.2 u.2
   ·rw[ak (show ic t u=true from bk Q),←drop_cons o]at f;simp(disch:=omega)only[go_sem,df];refine U _ t c f ?_ (fun t c=>?_)
    ·simp only[go_sem]
    ·simp(disch:=omega)only[bV]
   ·rw[aj (show¬ic t u=true from fun e=>Q (of_decide_eq_true e)),←drop_cons c]at f;simp(disch:=omega)only[go_sem,dt];refine V _ u o f ?_ (fun t c=>?_)
    ·simp only[go_sem]
    ·simp(disch:=omega)only[bV]
  ·have a6:j=b.length:=aa;rw[drop_cons c,jB (l:=b) aa,List.merge_right]at f;simp(disch:=omega)only[go_sem,Ex,p,q,r,s,dt];refine U _ t c (by rw[jB (l:=b) aa,List.merge_right];exact f) ?_ (fun t c=>?_)
   ·simp only[go_sem]
   ·simp(disch:=omega)only[bV]
 ·by_cases B:j<b.length
  ·obtain⟨u,o⟩:∃u,b[j]? =some u:=⟨b[j],cn B⟩;rw[drop_cons o,jB (l:=a) aa,List.nil_merge]at f;simp(disch:=omega)only[go_sem,Ex,p,q,r,s,dt,df];refine V _ u o (by rw[jB (l:=a) aa,List.nil_merge];exact f) ?_ (fun t c=>?_)
   ·simp only[go_sem]
   ·simp(disch:=omega)only[bV]
  ·rw[jB (l:=a) aa,jB (l:=b) aa,List.merge_right,fG]at f;simp(disch:=omega)only[go_sem,p,q,r,s,df];refine hR _ _ v g ?_ (by rw[←f];exact G);simp only[go_sem,y]
theorem aqp(l:List ax)(n:Nat)(o:n≤1000000000)(a:kq n l)(hl:l.length≤100000000):aW 182 [bG l] (bG (iH l)):=by
 induction m:l.length using jD generalizing l with
 |ind k c=>
  subst m;refine fE (.cons (tX _) .nil) (aT akf ?_);by_cases h:l.length<2
  ·simp(disch:=omega)only[go_sem,d182,Lt,dt];rw[yl h];exact iA rfl (tX _)
  ·have f:=c _ (by rw[dD];omega) (l.take (l.length/2)) (a.take _) (by rw[dD];omega) rfl;have i:=c _ (by rw[gZ];omega) (l.drop (l.length/2)) (a.drop _) (by rw[gZ];omega) rfl;have d:((l.length:Nat):Int).tdiv 2=((l.length/2:Nat):Int):=rfl;have u:l.length/2≤l.length:=jn _ _;have j:(2:Int)≠0:=ag;have p:g9 (hU .quo) [ah ((l.length:Nat):Int),ah 2]=some (.val (ah ((l.length/2:Nat):Int))):=by
    rw[jG _ _ _ j,d,aH _ aa]
   have q:slice3 (j7 5) false true false [bG l,ah ((l.length/2:Nat):Int)]=some (.val (bG (l.take (l.length/2)))):=by
    rw[ap' ⟨aa,aa⟩,bJ]
   have r:slice3 (j7 5) true false false [bG l,ah ((l.length/2:Nat):Int)]=some (.val (bG (l.drop (l.length/2)))):=by
    rw[aqa ⟨aa,aa⟩,bJ]
   simp(disch:=omega)only[go_sem,d182,Lt,Yr,df,p,q,r];refine use f ?_;simp only[go_sem];refine use i ?_;simp only[go_sem,Yq,Yp,Yo];refine amT (iH (l.take (l.length/2))) (iH (l.drop (l.length/2))) n o (a.take _).iH (a.drop _).iH (by rw[yj,yj,dD,gZ];omega) _ _ _ ?_ ?_ ?_ ?_ ?_ ?_
   iterate 5 simp only[go_sem]
   intro s t v g e b;rw[fA];simp only[go_sem,Yn,e];rw[←CR h]at b;exact⟨_,Om b,tX _,rfl⟩
theorem lp(q:Rat):V.agg (aV q)=bw q:=rfl
theorem mK(q:Rat):cq (aV q) 4=some (aV q):=rfl
theorem lV(q:Rat):bg (bw q)=true:=rfl
theorem lO(q:Rat):cellsOf (bw q)=aV q:=rfl
theorem lX(q:Rat):cr (aV q)=4:=rfl
theorem m8(q:Rat):cG (aV q)=true:=rfl
theorem amD(p q:Rat):cC (aV p) (aV q) 0=some (aV p):=rfl
theorem S5(s:List ax)(n q:Nat)(hn:n≤1000000000)(h:kq n s)(E:∀t∈s,a_ q t.1)(hl:s.length≤100000000)(al:(q+1)*(s.length+1)≤29999999)(i b:Nat)(t:ax)(a:s[i]? =some t)(F:Fr)(H:af)(R:X→Fr→af→Prop)
 (N:rd 5 F=bG s) (O:rd 7 F=ah (i:Int)) (P:rd 8 F=.ptr b 0) (Q:rd 9 F=ah ((i+1:Nat):Int)) (W:H.get b=.cells (aV t.1) 0)
 (J:∀(z:Fr) (l:af) (k:Nat) (c:Rat),(∀t,t<9→rd t z=rd t F)→rd 9 z=ah (k:Int)→i<k→k≤s.length→gA t.1 t.2 (s.drop (i+1))=(c,s.drop k)→a_ ((q+1)*(k-i)) c→l.get b=.cells (aV c) 0→(∀y,y≠b→l.get y=H.get y)→l.next=H.next→R (.exit 2) z l):
 bx (.loop (pc 116 2)) R F H:=by
 have hi:i<s.length:=(fN.1 a).1;have w:t∈s:=eT a
 refine bH (fun m A o=>∃(k:Nat) (c:Rat),m=s.length-k∧(∀t,t<9→rd t A=rd t F)∧rd 9 A=ah (k:Int)∧i<k∧k≤s.length∧gA c t.2 (s.drop k)=gA t.1 t.2 (s.drop (i+1))∧a_ ((q+1)*(k-i)) c∧o.get b=.cells (aV c) 0∧(∀y,y≠b→o.get y=H.get y)∧o.next=H.next) (s.length-(i+1))
  ⟨i+1,t.1,rfl,fun _ _=>rfl,Q,aa,aa,rfl,(E t w).mono (by rw[(aa:i+1-i=1)];omega),W,fun _ _=>rfl,rfl⟩ ?_
 rintro m A o ⟨k,c,rfl,f,d,K,L,p,v,r,D,C⟩;have B:=(f 5 ag).trans N;have V:=(f 7 ag).trans O;have G:=(f 8 ag).trans P;have T:=yt a;rw[VB];by_cases Z:k<s.length
 ·obtain⟨u,j⟩:∃u,s[k]? =some u:=⟨s[k],cn Z⟩;have x:u∈s:=eT j;have ho:=G4 t.2 u.2 ((h t w).1.trans (h u x).1.symm) (by rw[(h t w).1];exact hn) (h t w).2 (h u x).2;have U:=yt j;have S:=Ie j;rw[drop_cons j]at p;simp(disch:=omega)only[go_sem,B,V,d,dt,pz,bJ,T,U];refine use ho ?_;by_cases I:ord t.2 u.2=0
  ·have g:gA (c+u.1) t.2 (s.drop (k+1))=gA t.1 t.2 (s.drop (i+1)):=by
    rw[←p];exact(ak I).symm
   have ae:(q+1)*(k+1-i)=(q+1)*(k-i)+(q+1):=by rw[(aa:k+1-i=(k-i)+1),bD,dF]
   have ad:(q+1)*(k+1-i)≤(q+1)*(s.length+1):=fy _ aa;have Y:=xY c u.1 v (E u x) aa;simp(disch:=omega)only[go_sem,Vx,dt,B,G,d,r,pz,bJ,cE,S,mK,lp];refine use Y ?_;simp(disch:=omega)only[go_sem,Vw,lV,lO,lX,m8,amD,G,d,r,aH];refine⟨s.length-(k+1),aa,k+1,c+u.1,rfl,fun t a=>?_,?_,aa,aa,g,?_,?_,?_,?_⟩
   ·simp(disch:=omega)only[bV];exact f t a
   ·simp only[go_sem];rfl
   ·exact(v.add (E u x)).mono aa
   ·rw[af.aK,ak rfl]
   ·intro y M;rw[af.aK,aj (fun e=>M e.symm)];exact D y M
   ·exact C
  ·have g:gA t.1 t.2 (s.drop (i+1))=(c,s.drop k):=by
    rw[←p,drop_cons j];exact aj I
   simp(disch:=omega)only[go_sem,df];refine J _ _ k c (fun t a=>?_) ?_ K L g v r D C
   ·simp(disch:=omega)only[bV];exact f t a
   ·simp only[go_sem,d]
 ·have g:gA t.1 t.2 (s.drop (i+1))=(c,s.drop k):=by
   rw[←p,jB aa];rfl
  simp(disch:=omega)only[go_sem,B,d,df];refine J _ _ k c (fun t a=>?_) ?_ K L g v r D C
  ·simp(disch:=omega)only[bV];exact f t a
  ·simp only[go_sem,d]
def f_(n:Nat)(l:List ax):List V:=[ah (n:Int),bG l]
def gu(n:Nat)(l:List ax):V:=.agg (f_ n l)
theorem tV(n:Nat)(l:List ax):bz (gu n l):=.agg (.cons (.int _ _) (.cons (tX _) .nil))
def S0(s:List ax)(a:Nat)(k:Nat)(F:Fr)(H:af):Prop:=∃(i:Nat) (m:List ax) (v:V) (g:Nat),k=s.length-i∧rd 4 F=.ptr 5 0∧rd 5 F=bG s∧rd 6 F=.ptr 6 0∧rd 7 F=ah (i:Int)∧i≤s.length∧H.get 5=.cells [ah 0,.an] 0∧H.get 6=.cells [ah (a:Int),v] 0∧aI H 5 v (de m) g∧7≤H.next∧m.length≤i∧m++bB (s.drop i)=bB s
theorem aqI(s:List ax)(n q x:Nat)(hn:n≤1000000000)(he:kq n s)(hq:∀t∈s,a_ q t.1)(hl:s.length≤100000000)(a9:(q+1)*(s.length+1)≤29999999)(F:Fr)(H:af)(R:X→Fr→af→Prop)
 (T:rd 4 F=.ptr 5 0) (U:rd 5 F=bG s) (W:rd 6 F=.ptr 6 0) (Y:rd 7 F=ah 0) (h5:H.get 5=.cells [ah 0,.an] 0) (h6:H.get 6=.cells [ah (x:Int),.an] 0) (h7:7≤H.next)
 (hR:∀z j v g,rd 4 z=.ptr 5 0→rd 6 z=.ptr 6 0→j.get 5=.cells [ah 0,.an] 0→j.get 6=.cells [ah (x:Int),v] 0→aI j 5 v (de (bB s)) g→R (.exit 0) z j):
 bx (.loop (pc 116 8)) R F H:=by
 refine bH (S0 s x) s.length ⟨0,[],.an,0,rfl,T,U,W,Y,bQ _,h5,h6,.nil,h7,aE _,aB⟩ ?_;rintro k bc e ⟨i,m,v,g,rfl,E,l,G,o,hi,I,J,L,bs,bj,a⟩;rw[VG];by_cases a6:i<s.length
 ·obtain⟨t,h⟩:∃t,s[i]? =some t:=⟨s[i],cn a6⟩;have b0:t∈s:=eT h;have Z:=Ie h;have ab:=yt h;have hz:cC (aV t.1) [V.bool false,.an,aD,.an] 0=some (aV t.1):=rfl;simp(disch:=omega)only[go_sem,VF,VE,VD,lV,lO,lX,m8,hz,l,o,dt,pz,bJ,cE,Z,lp,aH];refine S5 s n q hn he hq hl a9 i e.next t h _ _ _ ?_ ?_ ?_ ?_ ?_ ?_
  iterate 3 simp only[go_sem,l,o]
  ·simp only[go_sem];rfl
  ·rw[af.aK,ak rfl]
  intro d f k c b nW be M aw bv K ap am;have N:rd 4 d=.ptr 5 0:=by rw[b 4 ag];simp only[go_sem,E]
  have C:rd 5 d=bG s:=by rw[b 5 ag];simp only[go_sem,l]
  have u:rd 6 d=.ptr 6 0:=by rw[b 6 ag];simp only[go_sem,G]
  have fP:rd 7 d=ah (i:Int):=by rw[b 7 ag];simp only[go_sem,o]
  have mI:rd 8 d=.ptr e.next 0:=by rw[b 8 ag];simp only[go_sem]
  clear b;have A:∀y,y<e.next→f.get y=e.get y:=by
   intro y hy;rw[ap y aa,af.aK,aj aa,af.bf,aj aa]
  have bo:f.next=e.next+1:=am
  have D:f.get 5=.cells [ah 0,.an] 0:=(A 5 aa).trans I;have w:f.get 6=.cells [ah (x:Int),v] 0:=(A 6 aa).trans J;have r:aI f 5 v (de m) g:=L.low A aa;have bi:=pR m;have a5:bB (s.drop i)=if c.num≠0 then(c,t.2)::bB (s.drop k)else bB (s.drop k):=by
   rw[drop_cons h,vv,aw]
  rw[a5]at a;rw[fA];simp only[go_sem,VC,mI,K,mK,lp];refine use (z_ c) ?_;by_cases p:c.num=0
  ·have B:(if c.num<0 then(-1:Int)else if c.num=0 then 0 else 1)=0:=by rw[aj aa,ak p]
   rw[aj (by simpa using p)]at a;simp(disch:=omega)only[go_sem,K0,B,decide_true,nW];refine⟨s.length-k,aa,k,m,v,g,rfl,?_,?_,?_,?_,M,D,w,r,aa,aa,a⟩
   iterate 4 simp only[go_sem,N,C,u]
  ·have B:decide ((if c.num<0 then(-1:Int)else if c.num=0 then 0 else 1)=0)=false:=by
    refine aZ ?_;rw[aj p];split<;>decide
   rw[ak p]at a;have a0:cC (aV c) [V.bool false,.an,aD,.an,.an] 0=some (aV c++[.an]):=rfl;have a1:cC [b6 t.2] (aV c++[V.an]) 4=some (aV c++[b6 t.2]):=rfl;have a2:nr (aV c++[b6 t.2]) [V.bool false,.an,aD,.an,.an]=some (iu (c,t.2)):=rfl;have a3:cr (aV c++[b6 t.2])=5:=rfl;simp(disch:=omega)only[go_sem,lV,lO,lX,a0,a1,a2,a3,B,C,u,fP,mI,K,w,mK,lp,pz,bJ,ab];refine gW (bytes:=88) (new:=iu (c,t.2)) r rfl ag rfl ⟨aa,ag⟩ fun v2 H3 g2 O b2 P b'=>?_
   obtain⟨S,n2,rfl⟩:=O.slice aa;have bb:=(P 5 aa (r.ne D)).trans D;have Q:=(P 6 aa (r.ne w)).trans w;simp(disch:=omega)only[go_sem,K0,u,nW,Q];refine⟨s.length-k,aa,k,m++[(c,t.2)],.slice S 0 n2 (.grown 5),g2,rfl,?_,?_,?_,?_,M,?_,?_,?_,?_,?_,?_⟩
   iterate 4 simp only[go_sem,N,C,u]
   ·rw[af.aK,aj ag];exact bb
   ·rw[af.aK,ak rfl]
   ·refine aI.set ?_ Q _;rw[wk];simpa [de]using O
   ·rw[jh];omega
   ·rw[aS,gH];omega
   ·rw[eJ];exact a
 ·rw[jB aa,xE,fG]at a;simp(disch:=omega)only[go_sem,l,o,df];refine hR _ _ v g ?_ ?_ I J (by rw[←a];exact L)
  iterate 2 simp only[go_sem,E,G]
variable{h:Nat}
theorem ahp{v:V}(b:aI c 5 v (de l) a):∃u,bR c (af.zero c.next) (.agg [ah (h:Int),v]) u∧bz u∧u=gu h l:=
 ⟨_,.agg (.cons (.same _) (.cons (Om b) .nil)),tV _ _,rfl⟩
theorem H8(l:List ax)(n q b:Nat)(e:n≤1000000000)(d:kq n l)(m:∀t∈l,a_ q t.1)(hl:l.length≤100000000)(o:(q+1)*(l.length+1)≤29999999):aW 116 [ah (b:Int),bG l] (gu b (j5 l)):=by
 refine fE (.cons (.int _ _) (.cons (tX _) .nil)) (aT ajK ?_);simp only[go_sem,d116,VA];refine use (aqp l n e d hl) ?_;simp only[go_sem,Vz,Vy];refine aqI (iH l) n q b e d.iH (fun t p=>m t ((Ai l).mem_iff.1 p)) (by rw[yj];exact hl) (by rw[yj];exact o) _ _ _ ?_ ?_ ?_ ?_ ?_ ?_ ?_ ?_
 iterate 6 simp only[go_sem]
 ·exact aE 7
 intro r s v g h i c j a;have w:bg v=true:=by generalize de (bB (iH l))=f at a;cases a<;>rfl
 have u:cellsOf v=[v]:=by generalize de (bB (iH l))=f at a;cases a<;>rfl
 have k:V.one v=true:=by generalize de (bB (iH l))=f at a;cases a<;>rfl
 rw[fA];simp only[go_sem,VH,h,i,c,j,k];exact ahp (a.set c _)
def me(l:List Int):V:=.row l.length (l.map fun z=>V.int .i64 z)
def cB(l:List Int)(i:Nat):List V:=[me l,ah (i:Int)]
def hL(l:List Int):Prop:=∀z∈l,-9223372036854775808≤z∧z<9223372036854775808
theorem N5(l:List Int):bz (me l):=.row _ (bY.iff.2 fun v h=>by
 simp only[k_]at h;obtain⟨d,_,rfl⟩:=h;exact .int _ _)
theorem BE(l:List Int)(i:Nat):bY (cB l i):=.cons (N5 l) (.cons (.int _ _) .nil)
@[go_sem]theorem avC(l:List Int):cT (me l)=some (.val (ah (l.length:Int))):=rfl
variable{N:List Int}
theorem aiP(h:0≤q∧q<N.length):dJ none 1 [me N,.int n q]=some (.val (.cY (N.map fun z=>V.int .i64 z) q.toNat)):=by
 rw[me,kh h,dF]
theorem amd(h:a<N.length):cK (N.map fun z=>V.int .i64 z) a=some (ah (N.getD a 0)):=by
 rw[gF];simp[h]
def kT(l:List Int)(f:Nat)(d:List V)(R:V→Prop):Prop:=∀(H:af) (b i:Nat),5≤b→i≤l.length→H.get b=.cells (cB l i) 0→
 c7 f (.ptr b 0::d) H fun v c=>R v∧∃a,a≤l.length∧c=H.set b (.cells (cB l a) 0)
theorem nD{R:V→Prop}(o:bY b)
 (h:∀i,i≤N.length→c7 a (.ptr 5 0::b) (af.one 5 6 (cB N i)) fun k d=>∃c v,c≤N.length∧d.get 5=.cells (cB N c) 0∧bR d (af.one 5 d.next (cB N c)) k v∧bz v∧R v):kT N a b R:=by
 intro H e i p hi q;refine(Kx (R:=fun v j=>R v∧∃c,c≤N.length∧j=cB N c) q (BE N i) p ⟨0,aB⟩ (args2:=.ptr 5 0::b) (.cons ?_ (jW.free o)) ?_).mono ?_
 ·have:=gV.ptr (σ:=oq 5 e) (k:=5+1) (b:=5) 0 ag;rwa[show oq 5 e 5=e from ak rfl]at this
 ·refine(h i hi).mono ?_;rintro k d ⟨c,v,f,g,l,m,n⟩;exact⟨v,cB N c,g,BE N c,l,m,n,c,f,rfl⟩
 ·rintro v d ⟨j,⟨f,c,g,rfl⟩,rfl⟩;exact⟨f,c,g,rfl⟩
variable{i:Option Nat}{e:Fr→af→Prop}{m:Fr}{u:Nat}
theorem eX{R:V→Prop}(g:kT N a b R)(l:5≤h)(hi:u≤N.length)(n:c.get h=.cells (cB N u) 0)
 (o:∀v d,R v→d≤N.length→e (put m i v) (c.set h (.cells (cB N d) 0))):oQ eP 5 i e m c (some (.fn a,.ptr h 0::b)):=
 (g c h u l hi n).mono fun v p ⟨j,d,k,f⟩=>by rw[f];exact o v d j k
theorem lT(n:Nat)(a:List V):(af.one 5 n a).get 5=.cells a 0:=by rw[af.kE,ak rfl]
theorem cX(n:Nat)(a:List V):(af.one 5 n a).next=n:=rfl
theorem aqY(v n:Int)(a:0<n):(v.tmod n+n).tmod n=v%n:=by
 have b: -n<v.tmod n:=by
  have:=Int.lt_tmod_of_pos v a;omega
 rw[Int.tmod_eq_emod_of_nonneg aa,Int.add_emod_right,Int.tmod_eq_emod];split
 ·simp
 ·rw[(aa:((n.natAbs:Nat):Int)=n),Int.sub_emod_right,Int.emod_emod]
theorem lE(l:List Int)(hl:l.length≤400)(m:hL l)(n:Nat)(e:0<n∧n≤1048576):kT l 11 [ah (n:Int)] fun v=>∃k:Nat,k<n∧v=ah (k:Int):=by
 refine nD (.cons (.int _ _) .nil) fun i hi=>aT qD ?_
 by_cases h:i<l.length
 ·have o:=m (l.getD i 0) (by
   rw[bX,cn h];exact wI h)
  obtain⟨z,c⟩:∃z,z=l.getD i 0:=⟨_,rfl⟩;rw[←c]at o;have d:cK (l.map fun z=>V.int .i64 z) i=some (ah z):=by rw[c];exact amd h
  have f:((n:Nat):Int)≠0:=aa;have g:=Int.lt_tmod_of_pos z (aa:(0:Int)<n);have j:=Int.tmod_lt_of_pos z (aa:(0:Int)<n);have a:=aqY z n aa;have p:=Int.emod_nonneg z f;have q:=Int.emod_lt_of_pos z (aa:(0:Int)<n);obtain⟨x,b⟩:∃x,x=z.tmod n:=⟨_,rfl⟩;rw[←b]at g j a;simp(disch:=omega)only[go_sem,d11,K1,VR,VQ,VP,cB,lT,dt,dK,aiP,bJ,d,aH,mB,←b];refine⟨i+1,_,aa,?_,.same _,.int _ _,(z%n).toNat,aa,?_⟩
  ·rfl
  ·rw[a];congr 1;omega
 ·simp(disch:=omega)only[go_sem,d11,K1,cB,lT,df,dK];exact⟨i,_,hi,rfl,.same _,.int _ _,0,e.1,rfl⟩
theorem RS(n d:Int)(e:n.natAbs≤9)(c:0<d∧d≤4):a_ 4 (nL n d):=by
 obtain⟨k,rfl⟩:∃k:Nat,d=k:=⟨d.natAbs,aa⟩;rw[u5];obtain⟨a,b⟩:=mk_le n (m:=k) aa;exact⟨aa,aa⟩
theorem yg(h:a<1024):dW a:=dW.of (k:=10) aa ag
def SX(k:Nat)(v:V):Prop:=∃q:Rat,a_ k q∧v=bw q
theorem jL(q:Rat):cC (aV q) [V.bool false,.an,aD,.an] 0=some (aV q):=rfl
theorem GP(l:List Int)(hl:l.length≤400)(a:hL l):kT l 42 [] (SX 4):=by
 refine nD .nil fun i hi=>aT alk ?_
 simp only[go_sem,d42,adO];refine eX (lE l hl a 19 ag) ag hi ?_ ?_
 ·simp only[go_sem,lT,cX]
 rintro _ j ⟨e,g,rfl⟩ b;simp(disch:=omega)only[go_sem,adN,aH];refine use (tZ _ aa) ?_;simp only[go_sem];refine eX (lE l hl a 4 ag) ag b ?_ ?_
 ·simp only[go_sem]
 rintro _ d ⟨f,h,rfl⟩ c;simp(disch:=omega)only[go_sem,aH];refine use (tZ _ aa) ?_;simp only[go_sem];refine use (xC ((e:Int)-9) (1+(f:Int)) aa (yg aa) (yg aa)) ?_;simp only[go_sem,cX,lV,lO,lX,m8,jL,c_,mK,lp];refine⟨d,_,c,?_,.same _,fX _,_,RS _ _ aa aa,rfl⟩;simp only[go_sem]
theorem aoe(l:List Int)(hl:l.length≤400)(e:hL l):kT l 53 [] (fun v=>∃q:Rat,a_ 4 q∧0<q.num∧v=bw q):=by
 refine nD .nil fun i hi=>aT als ?_
 simp only[go_sem,d53,aej];refine eX (lE l hl e 9 ag) ag hi ?_ ?_
 ·simp only[go_sem,lT,cX]
 rintro _ p ⟨a,n,rfl⟩ g;simp(disch:=omega)only[go_sem,aH];refine use (tZ _ aa) ?_;simp only[go_sem];refine eX (lE l hl e 4 ag) ag g ?_ ?_
 ·simp only[go_sem]
 rintro _ m ⟨d,o,rfl⟩ h;simp(disch:=omega)only[go_sem,aH];refine use (tZ _ aa) ?_;simp only[go_sem];refine use (xC (1+(a:Int)) (1+(d:Int)) aa (yg aa) (yg aa)) ?_;simp only[go_sem,cX,lV,lO,lX,m8,jL,c_,mK,lp];refine⟨m,_,h,?_,.same _,fX _,_,RS _ _ aa aa,?_,rfl⟩
 ·simp only[go_sem]
 ·obtain⟨k,j⟩:∃k:Nat,1+(d:Int)=k:=⟨1+d,aa⟩;rw[j,u5,zI _ aa];have b:0<cx (1+(a:Int)).natAbs k:=Nat.gcd_pos_of_pos_right _ aa;have c:cx (1+(a:Int)).natAbs k≤(1+(a:Int)).natAbs:=Nat.gcd_le_left _ aa;have f:(1+(a:Int))=(((1+a:Nat)):Int):=aa;rw[f]at c b⊢;rw[dB]at c b⊢;have:0<(1+a)/cx (1+a) k:=Nat.div_pos c b;show 0<(((1+a)/cx (1+a) k:Nat):Int);omega
theorem Iy(l:List Int)(hl:l.length≤400)(b:hL l)(k:Nat)(f:k≤100):kT l 52 [ah (k:Int)] (fun v=>∃z:Int,-(k:Int)≤z∧z≤k∧v=bw (z:Rat)):=by
 refine nD (.cons (.int _ _) .nil) fun i hi=>aT alr ?_
 have e:(2:Int)*(k:Int)+1=((2*k+1:Nat):Int):=aa;simp(disch:=omega)only[go_sem,d52,aei,aH,e];refine eX (lE l hl b (2*k+1) ⟨aa,aa⟩) ag hi ?_ ?_
 ·simp only[go_sem,lT,cX]
 rintro _ c ⟨d,g,rfl⟩ a;simp(disch:=omega)only[go_sem,aH];refine use (z3 _ aa) ?_;simp only[go_sem,cX,lV,lO,lX,m8,jL,c_,mK,lp];refine⟨c,_,a,?_,.same _,fX _,(d:Int)-k,aa,aa,rfl⟩;simp only[go_sem]
def pZ:jR:=Ec 5 nJ qh qI 300
theorem qY:oP eP 5 pZ:=Kw hT b7 P4 fY 300
def BY(l:List (List Nat)):List V:=l.map b6
def qC(l:List (List Nat)):V:=.row l.length (BY l)
def n3:Nat→List (List Nat)
 |1=>[[0],[1],[2]]
 |_=>[[0,0],[0,1],[1,0],[0,2],[1,1],[2,0]]
theorem amg:pM 5 pZ 153 [ah 1,ah 2] (qC (n3 1))=true:=by kernel_rfl
theorem ami:pM 5 pZ 153 [ah 2,ah 2] (qC (n3 2))=true:=by kernel_rfl
theorem amj(n:Nat)(h:n=1∨n=2):aW 153 [ah (n:Int),ah 2] (qC (n3 n)):=by
 rcases h with rfl|rfl
 ·exact rQ qY amg
 ·exact rQ qY ami
def vL:Nat→List (List Nat)
 |1=>[[0],[1]]
 |_=>[[0,0],[0,1],[1,0]]
theorem amf:pM 5 pZ 153 [ah 1,ah 1] (qC (vL 1))=true:=by kernel_rfl
theorem amh:pM 5 pZ 153 [ah 2,ah 1] (qC (vL 2))=true:=by kernel_rfl
theorem amk(n:Nat)(h:n=1∨n=2):aW 153 [ah (n:Int),ah 1] (qC (vL n)):=by
 rcases h with rfl|rfl
 ·exact rQ qY amf
 ·exact rQ qY amh
@[go_sem]theorem avp(l:List (List Nat)):cT (qC l)=some (.val (ah (l.length:Int))):=rfl
theorem aiN{l:List (List Nat)}(h:0≤q∧q<l.length):dJ none 1 [qC l,.int n q]=some (.val (.cY (BY l) q.toNat)):=by
 rw[qC,kh h,dF]
theorem amc{l:List (List Nat)}(h:l[a]? =some d):cK (BY l) a=some (b6 d):=by
 rw[gF,BY,iy,h];rfl
theorem Cc(b:a=1∨a=2):∀e∈n3 a,e.length=a∧e.sum≤2:=by
 rcases b with rfl|rfl<;>decide
theorem amY(b:a=1∨a=2):0<(n3 a).length∧(n3 a).length≤6:=by
 rcases b with rfl|rfl<;>decide
def q3(n k:Nat)(p:List ax):Prop:=Canon p∧(∀t∈p,t.2∈n3 n∧a_ (5*k) t.1)∧p.length≤k
def nI(H:af):Prop:=∀y,y<5→H.get y=.none
def Du(M:List (List Nat))(l:List Int)(n a:Nat)(j:Nat)(F:Fr)(H:af):Prop:=∃(i:Nat) (m:List ax) (v:V) (g:Nat),i≤l.length∧rd 0 F=.ptr 5 0∧rd 1 F=ah (n:Int)∧rd 8 F=.ptr 6 0∧rd 9 F=qC M∧rd 10 F=v∧rd 11 F=ah (j:Int)∧
 H.get 5=.cells (cB l i) 0∧H.get 6=.cells [ah 0,.an] 0∧nI H∧aI H 5 v (de m) g∧m.length+j≤a∧(∀t∈m,t.2∈n3 n∧a_ 4 t.1)∧7≤H.next
theorem nI.keep{H':af}(h:nI c)(b:∀y,y<5→H'.get y=c.get y):nI H':=fun y a=>(b y a).trans (h y a)
theorem nI.set(h:nI c)(b:5≤a)(o:cP):nI (c.set a o):=h.keep fun y d=>by rw[af.aK,aj aa]
theorem amC(n:Nat)(a:List V):nI (af.one 5 n a):=fun y b=>by rw[af.kE,aj aa]
theorem nI.push(h:nI c)(a:5≤c.next)(o:cP):nI (c.push o):=h.keep fun y b=>by rw[af.bf,aj aa]
theorem aod(M:List (List Nat))(W:0<M.length∧M.length≤6)(hs:∀e∈M,e∈n3 a)(l:List Int)(hl:l.length≤400)(O:hL l)(r:Nat)(L:r≤10)(F:Fr)(H:af)(R:X→Fr→af→Prop)(j:Nat)(U:Du M l a r j F H)
 (Y:∀B C,Du M l a r 0 B C→R (.exit 0) B C):bx (.loop (pc 98 2)) R F H:=by
 refine bH (Du M l a r) j U ?_;rintro j a' s ⟨i,m,v,g,hi,d,D,G,u,E,n,w,I,A,x,hm,K,a1⟩;rw[afz];cases j with
 |zero=>
  simp(disch:=omega)only[go_sem,n,jT,df];refine Y _ _ ⟨i,m,v,g,hi,?_,?_,?_,?_,?_,?_,w,I,A,x,hm,K,a1⟩
  iterate 6 simp only[go_sem,d,D,G,u,E,n]
 |succ j=>
  obtain⟨a0,bb⟩:=W;simp(disch:=omega)only[go_sem,afy,d,E,n,dt];refine eX (GP l hl O) ag hi w ?_;rintro _ o ⟨q,hq,rfl⟩ al;simp(disch:=omega)only[go_sem,d,u];refine eX (lE l hl O M.length ⟨a0,aa⟩) ag al ?_ ?_
  ·simp only[go_sem]
  rintro _ c ⟨k,hk,rfl⟩ am;obtain⟨e,J⟩:∃e,M[k]? =some e:=⟨M[k],cn hk⟩;have ae:e∈n3 a:=hs e (eT J);have ar:=amc J;have Z:cC (aV q) [V.bool false,.an,aD,.an,.an] 0=some (aV q++[.an]):=rfl;have ab:cC [b6 e] (aV q++[V.an]) 4=some (iu (q,e)):=rfl;have ac:nr (iu (q,e)) [V.bool false,.an,aD,.an,.an]=some (iu (q,e)):=rfl;have ad:cr (iu (q,e))=5:=rfl;have ba:=pR m;simp(disch:=omega)only[go_sem,lV,lO,lX,Z,ab,ac,ad,aiN,bJ,ar];have z:aI ((s.set 5 (.cells (cB l o) 0)).set 5 (.cells (cB l c) 0)) 5 v (de m) g:=(x.set w _).set (cs:=cB l o) (by rw[af.aK,ak rfl]) _;refine gW (bytes:=88) (new:=iu (q,e)) z rfl ag rfl ⟨aa,ag⟩ fun v2 S T q1 a5 p a6=>?_
  have P:((s.set 5 (.cells (cB l o) 0)).set 5 (.cells (cB l c) 0)).get 5=.cells (cB l c) 0:=by rw[af.aK,ak rfl]
  have Q:((s.set 5 (.cells (cB l o) 0)).set 5 (.cells (cB l c) 0)).get 6=.cells [ah 0,.an] 0:=by rw[af.aK,aj ag,af.aK,aj ag];exact I
  simp only[jh]at a5 p a6;have a7:=(p 5 aa (z.ne P)).trans P;have a8:=(p 6 aa (z.ne Q)).trans Q;have rl:nI S:=by
   intro y N;rw[p y aa (x.tT fun b f e=>by rw[A y N]at e;cases e),af.aK,aj aa,af.aK,aj aa];exact A y N
  simp(disch:=omega)only[go_sem,afx,n,aH];refine⟨j,mm j,c,m++[(q,e)],v2,T,am,?_,?_,?_,?_,?_,?_,a7,a8,rl,?_,?_,?_,aa⟩
  iterate 5 simp only[go_sem,d,D,G,u]
  ·simp only[go_sem];congr 1;omega
  ·rw[wk];simpa [de]using q1
  ·rw[aS,gH];omega
  ·intro t L;rcases gI.1 L with h|h
   ·exact K t h
   ·rw[dj.1 h];exact⟨ae,hq⟩
theorem amB{a:List V}(h:nI c)(i:c.get 5=.cells a 0)(j:c.get 6=.cells b 0):∀y d g,y<7→c.get y=.cells d g→g=0:=by
 intro y d g k e;by_cases f:y<5
 ·rw[h y f]at e;cases e
 ·rcases(aa:y=5∨y=6)with rfl|rfl
  ·rw[i]at e;cases e;rfl
  ·rw[j]at e;cases e;rfl
theorem agJ(c:a=1∨a=2)(h:∀t∈l,t.2∈n3 a):kq a l:=fun t d=>by
 obtain⟨b,e⟩:=Cc c t.2 (h t d);exact⟨b,aa⟩
theorem Qv(M:List (List Nat))(F:0<M.length∧M.length≤6)(d:Int)(l:List Int)(hl:l.length≤400)(s:hL l)(n b:Nat)(K:n=1∨n=2)(L:∀e∈M,e∈n3 n)(E:aW 153 [ah (n:Int),ah d] (qC M))(a:0<b∧b≤10):kT l 98 [ah (n:Int),ah d,ah (b:Int)] fun v=>∃p,q3 n b p∧v=gu n p:=by
 refine nD (.cons (.int _ _) (.cons (.int _ _) (.cons (.int _ _) .nil))) fun i hi=>Ef hT b7 fY Pa.1 Pa.2 (by kernel_rfl) 4 39 rfl rfl ?_
 have A:((b:Int)+1)=((b+1:Nat):Int):=aa;simp only[go_sem,d98,afD,afC,afB,aP.cutAt];refine use E ?_;simp(disch:=omega)only[go_sem,aH,A];refine eX (lE l hl s (b+1) ⟨aa,aa⟩) ag hi ?_ ?_
 ·simp only[go_sem,lT,cX]
 rintro _ P ⟨k,W,rfl⟩ H;simp only[go_sem];refine aod M F L l hl s b a.2 _ _ _ k ⟨P,[],.an,0,H,?_,?_,?_,?_,?_,?_,?_,?_,?_,.nil,by simp;omega,(fun t h=>by cases h),?_⟩ ?_
 iterate 8 simp only[go_sem,cX]
 ·exact nI.set ((amC _ _).push (by rw[cX];decide) _) ag _
 ·exact aE 7
 rintro c j ⟨w,m,v,g,I,T,B,D,V,C,U,o,q,J,G,X,f,Y⟩;have r:=amB J o q;rw[fA];simp only[go_sem];refine Iw (j.low 7) (fun t=>if t=10 then bG m else if t=1∨t=8 then rd t c else .any) (En (by rw[cX];decide) r) (fun t a=>?_) ?_
 ·show bR _ _ _ (if t=10 then _ else _);by_cases h:t=10
  ·subst h;rw[ak rfl,C];exact G.F3 ag r (pR m)
  ·rw[aj h];split
   ·exact .same _
   ·exact .any _
 have x:rd 1 (kY (fun t=>if t=10 then bG m else if t=1∨t=8 then rd t c else .any) 39)=ah (n:Int):=by rw[qJ _ ag];exact B
 have z:rd 8 (kY (fun t=>if t=10 then bG m else if t=1∨t=8 then rd t c else .any) 39)=.ptr 6 0:=by rw[qJ _ ag];exact D
 have y:rd 10 (kY (fun t=>if t=10 then bG m else if t=1∨t=8 then rd t c else .any) 39)=bG m:=by rw[qJ _ ag];rfl
 generalize kY (fun t=>if t=10 then bG m else if t=1∨t=8 then rd t c else .any) 39=S at x z y
 have Q:(j.low 7).get 5=.cells (cB l w) 0:=by rw[af.qw,ak ag];exact o
 have R:(j.low 7).get 6=.cells [ah 0,.an] 0:=by rw[af.qw,ak ag];exact q
 have N:=H8 m n 4 n aa (agJ K fun t a=>(f t a).1) (fun t a=>(f t a).2) aa (by
  have:=fy (4+1) (aa:m.length+1≤11);omega)
 simp only[go_sem,afA,x,y];refine use N ?_;simp only[go_sem,gu,f_,z,R];refine⟨w,_,I,?_,.same _,tV _ _,j5 m,⟨aok m,fun t a=>?_,?_⟩,rfl⟩
 ·simp only[go_sem,Q]
 ·obtain⟨u,O,e⟩:=aoo a;refine⟨by rw[e];exact(f u O).1,?_⟩;refine(aop (k:=4) (fun t a=>(f t a).2) t a).mono ?_;have:=fy (4+1) (aa:m.length≤b);omega
 ·have:=aom m;omega
theorem G_(l:List Int)(hl:l.length≤400)(d:hL l)(n a:Nat)(b:n=1∨n=2)(c:0<a∧a≤10):kT l 98 [ah (n:Int),ah 2,ah (a:Int)] fun v=>∃p,q3 n a p∧v=gu n p:=
 Qv (n3 n) (amY b) 2 l hl d n a b (fun _ h=>h) (amj n b) c
def pI(n:Nat)(p:List ax):List V:=[ah (n:Int),bG p]
def fj(n:Nat):List (List ax)→List V
 |[]=>[]
 |p::l=>pI n p++fj n l
def fZ(n:Nat)(l:List (List ax)):V:=.row l.length (fj n l)
theorem rO(n:Nat):∀l,(fj n l).length=l.length*2
 |[]=>rfl
 |p::l=>by
  simp only[fj,aS,rO n l,cL];have:(pI n p).length=2:=rfl;omega
theorem zX(n:Nat):∀(l m:List (List ax)),fj n (l++m)=fj n l++fj n m
 |[],_=>rfl
 |t::l,m=>by simp only[eS,fj,zX n l m,eJ]
theorem NY(n:Nat):∀l,bY (fj n l)
 |[]=>.nil
 |p::l=>lu (.cons (.int _ _) (.cons (tX _) .nil)) (NY n l)
theorem FP(n:Nat)(l:List (List ax)):bz (fZ n l):=.row _ (NY n l)
end Go.Proofs.YtddhncjmaahodaaGreatDoor
namespace Go.au
variable{c:af}{a:Nat}{b:List V}{h:Nat}
theorem aI.bg{v:V}(d:aI c a v b h):bg v=true∧cellsOf v=[v]∧V.one v=true:=by cases d<;>exact⟨rfl,rfl,rfl⟩
end Go.au
namespace Go.Proofs.YtddhncjmaahodaaGreatDoor
open Go.au Go.aF
def IV(l:List Int)(n:Nat)(g:List ax)(d c:List (List ax))(f e:V)(b a:Nat)(H:af):Prop:=∃i,i≤l.length∧H.get 5=.cells (cB l i) 0∧H.get 6=.cells [ah 0,ah 0,.an,.an,.an] 0∧H.get 7=.cells [ah (n:Int),ah (n:Int),bG g,f,e] 0∧
 aI H 2 f (fj n d) b∧aI H 2 e (fj n c) a∧(a=0∨a≠b)∧8≤H.next∧b<H.next∧(∀p∈d,q3 n 2 p)∧(∀p∈c,q3 n 2 p)
def IU(n:Nat)(F:Fr):Prop:=rd 0 F=.ptr 5 0∧rd 1 F=ah (n:Int)∧rd 2 F=ah 2∧rd 6 F=.ptr 6 0∧rd 7 F=.ptr 7 0
def Dv(l:List Int)(n:Nat)(c:List ax)(j:Nat)(F:Fr)(H:af):Prop:=∃a d b,IU n F∧rd 8 F=ah (j:Int)∧a.length+j≤2∧IV l n c a [] d .an b 0 H
def Dw(l:List Int)(n:Nat)(e:List ax)(d:List (List ax))(g:V)(c:Nat)(j:Nat)(F:Fr)(H:af):Prop:=∃a f b,IU n F∧rd 9 F=ah (j:Int)∧a.length+j≤1∧IV l n e d a g f c b H
theorem aoh(l:List Int)(hl:l.length≤400)(hz:hL l)(n:Nat)(V:n=1∨n=2)(g:List ax)(F:Fr)(H:af)(R:X→Fr→af→Prop)(j:Nat)(O:Dv l n g j F H)
 (P:∀x y,Dv l n g 0 x y→R (.exit 0) x y):bx (.loop (pc 47 2)) R F H:=by
 refine bH (Dv l n g) j O ?_;rintro j ap c ⟨b,w,G,⟨o,r,s,C,d⟩,e,U,i,hi,t,E,br,u,Q,W,Y,S,J,I⟩;rw[adX];cases j with
 |zero=>
  simp(disch:=omega)only[go_sem,e,jT,df];refine P _ _ ⟨b,w,G,⟨?_,?_,?_,?_,?_⟩,?_,U,i,hi,t,E,br,u,Q,W,Y,S,J,I⟩
  iterate 6 simp only[go_sem,o,r,s,C,d,e]
 |succ j=>
  obtain⟨k1,k2,bA⟩:=u.bg;have ar:=rO n b;simp(disch:=omega)only[go_sem,adW,o,r,s,d,e,br,dt];refine eX (G_ l hl hz n 2 V ag) ag hi t ?_;rintro _ a ⟨p,Z,rfl⟩ T;have aw:gu n p=.agg (pI n p):=rfl;simp(disch:=omega)only[go_sem,gu,f_,br,true_and];have f:aI (c.set 5 (.cells (cB l a) 0)) 2 w (fj n b) G:=u.set t _;refine gW (bytes:=32) (new:=pI n p) f rfl ag rfl ⟨aa,ag⟩ fun v2 M D k K m ae=>?_
  obtain⟨N,n2,rfl⟩:=k.slice (by rw[jh]at K;omega);have z:(c.set 5 (.cells (cB l a) 0)).get 5=.cells (cB l a) 0:=by rw[af.aK,ak rfl]
  have A:(c.set 5 (.cells (cB l a) 0)).get 6=.cells [ah 0,ah 0,.an,.an,.an] 0:=by rw[af.aK,aj ag];exact E
  have B:(c.set 5 (.cells (cB l a) 0)).get 7=.cells [ah (n:Int),ah (n:Int),bG g,w,.an] 0:=by rw[af.aK,aj ag];exact br
  simp only[jh]at K m ae;have al:=(m 5 aa (f.ne z)).trans z;have am:=(m 6 aa (f.ne A)).trans A;have L:=(m 7 aa (f.ne B)).trans B;have v:D<M.next:=by
   generalize fj n b++pI n p=xs at k
   cases k with
   |cells _ _ _ _ _ v _=>exact v
  simp(disch:=omega)only[go_sem,adV,d,e,L,aH];refine⟨j,mm j,b++[p],.slice N 0 n2 (.grown 2),D,⟨?_,?_,?_,?_,?_⟩,?_,?_,a,T,?_,?_,?_,?_,.nil,.inl rfl,?_,?_,?_,I⟩
  iterate 5 simp only[go_sem,o,r,s,C,d]
  ·simp only[go_sem];congr 1;omega
  ·rw[aS,gH];omega
  ·rw[af.aK,aj ag];exact al
  ·rw[af.aK,aj ag];exact am
  ·rw[af.aK,ak rfl]
  ·refine aI.set ?_ L _;rw[zX];simpa [fj]using k
  ·rw[jh];omega
  ·rw[jh];exact v
  ·intro q hq;rcases gI.1 hq with h|h
   ·exact J q h
   ·rw[dj.1 h];exact Z
theorem aoi(l:List Int)(hl:l.length≤400)(hz:hL l)(n:Nat)(hn:n=1∨n=2)(t:List ax)(f:List (List ax))(b:V)(d:Nat)(F:Fr)(H:af)(R:X→Fr→af→Prop)(j:Nat)(U:Dw l n t f b d j F H)
 (W:∀A B,Dw l n t f b d 0 A B→R (.exit 2) A B):bx (.loop (pc 47 5)) R F H:=by
 refine bH (Dw l n t f b d) j U ?_;rintro j a3 c ⟨m,z,J,⟨u,v,w,G,o⟩,r,hm,i,hi,s,I,br,M,L,x,al,ab,N,K⟩;rw[ad0];cases j with
 |zero=>
  simp(disch:=omega)only[go_sem,r,jT,df];refine W _ _ ⟨m,z,J,⟨?_,?_,?_,?_,?_⟩,?_,hm,i,hi,s,I,br,M,L,x,al,ab,N,K⟩
  iterate 6 simp only[go_sem,u,v,w,G,o,r]
 |succ j=>
  have a4:=rO n m;simp(disch:=omega)only[go_sem,adZ,u,v,w,o,r,br,dt];refine eX (G_ l hl hz n 2 hn ag) ag hi s ?_;rintro _ a ⟨p,hp,rfl⟩ ac;simp(disch:=omega)only[go_sem,gu,f_,br,true_and];have e:aI (c.set 5 (.cells (cB l a) 0)) 2 z (fj n m) J:=L.set s _;have Y:aI (c.set 5 (.cells (cB l a) 0)) 2 b (fj n f) d:=M.set s _;refine gW (bytes:=32) (new:=pI n p) e rfl ag rfl ⟨aa,ag⟩ fun v2 Q T O g k P=>?_
  obtain⟨S,n2,rfl⟩:=O.slice (by rw[jh]at g;omega);have C:(c.set 5 (.cells (cB l a) 0)).get 5=.cells (cB l a) 0:=by rw[af.aK,ak rfl]
  have D:(c.set 5 (.cells (cB l a) 0)).get 6=.cells [ah 0,ah 0,.an,.an,.an] 0:=by rw[af.aK,aj ag];exact I
  have E:(c.set 5 (.cells (cB l a) 0)).get 7=.cells [ah (n:Int),ah (n:Int),bG t,b,z] 0:=by rw[af.aK,aj ag];exact br
  have Z:aI Q 2 b (fj n f) d:=Y.other e (g8 P) k x;simp only[jh]at g k P;have a1:=(k 5 aa (e.ne C)).trans C;have a2:=(k 6 aa (e.ne D)).trans D;have y:=(k 7 aa (e.ne E)).trans E;simp(disch:=omega)only[go_sem,adY,o,r,y,aH];refine⟨j,mm j,m++[p],.slice S 0 n2 (.grown 2),T,⟨?_,?_,?_,?_,?_⟩,?_,?_,a,ac,?_,?_,?_,Z.set y _,?_,?_,?_,?_,N,?_⟩
  iterate 5 simp only[go_sem,u,v,w,G,o]
  ·simp only[go_sem];congr 1;omega
  ·rw[aS,gH];omega
  ·rw[af.aK,aj ag];exact a1
  ·rw[af.aK,aj ag];exact a2
  ·rw[af.aK,ak rfl]
  ·refine aI.set ?_ y _;rw[zX];simpa [fj]using O
  ·rcases g with⟨_,g⟩|⟨g,a0⟩
   ·right;omega
   ·rw[a0];exact x
  ·rw[jh];omega
  ·rw[jh];omega
  ·intro q hq;rcases gI.1 hq with h|h
   ·exact K q h
   ·rw[dj.1 h];exact hp
structure fz where
 n:Nat
 obj:List ax
 is:List (List ax)
 es:List (List ax)
structure fz.aA (p:fz):Prop where
 n:p.n=1∨p.n=2
 obj:q3 p.n 3 p.obj
 is:∀q∈p.is,q3 p.n 2 q
 es:∀q∈p.es,q3 p.n 2 q
 li:p.is.length≤2
 le:p.es.length≤1
def fD(p:fz):V:=.agg [ah (p.n:Int),ah (p.n:Int),bG p.obj,fZ p.n p.is,fZ p.n p.es]
theorem oA(p:fz):bz (fD p):=.agg (.cons (.int _ _) (.cons (.int _ _) (.cons (tX _) (.cons (FP _ _) (.cons (FP _ _) .nil)))))
variable{c:af}{H:af}{a:Nat}{K:List (List ax)}{h:Nat}
theorem F1{v:V}(d:aI c 2 v (fj a K) h)(e:∀y,h≠0→c.get y=.cells (fj a K) h→H.get y=.none):bR c H v (fZ a K):=by
 obtain⟨m,b,f⟩:=d.di (H2:=H) ag e (cD.refl _);rw[rO]at f;have:m=K.length:=aa;rw[this]at b;exact b
theorem aoj(l:List Int)(hl:l.length≤400)(d:hL l)(a:Nat)(f:a=1∨a=2):kT l 47 [ah (a:Int),ah 2] fun v=>∃p:fz,p.n=a∧p.aA∧v=fD p:=by
 refine nD (.cons (.int _ _) (.cons (.int _ _) .nil)) fun i hi=>aT aln ?_
 simp only[go_sem,d47,ad4];refine eX (G_ l hl d a 3 f ag) ag hi ?_ ?_
 ·simp only[go_sem,lT,cX]
 rintro _ i1 ⟨j,ab,rfl⟩ R;simp only[go_sem,ad3,gu,f_,cX];refine eX (lE l hl d 3 ag) ag R ?_ ?_
 ·simp only[go_sem,cX]
 rintro _ i2 ⟨C,ba,rfl⟩ S;simp only[go_sem];refine aoh l hl d a f j _ _ _ C ⟨[],.an,0,⟨?_,?_,?_,?_,?_⟩,?_,by simp;omega,i2,S,?_,?_,?_,.nil,.nil,.inl rfl,?_,?_,(fun _ h=>by cases h),(fun _ h=>by cases h)⟩ ?_
 iterate 9 simp only[go_sem,cX]
 ·exact aE 8
 ·exact(by decide:0<8)
 rintro ap H1 ⟨m,am,N,⟨t,I,J,K,L⟩,f8,X,i3,T,u,M,br,P,a8,bc,Z,Q,z,a7⟩;rw[fA];simp only[go_sem,ad2,t];refine eX (lE l hl d 2 ag) ag T u ?_;rintro _ i4 ⟨D,bb,rfl⟩ U;simp only[go_sem];refine aoi l hl d a f j m am N _ _ _ D ⟨[],.an,0,⟨?_,?_,?_,?_,?_⟩,?_,by simp;omega,i4,U,?_,?_,?_,P.set u _,.nil,.inl rfl,?_,?_,z,(fun _ h=>by cases h)⟩ ?_
 iterate 6 simp only[go_sem,t,I,J,K,L]
 ·rw[af.aK,ak rfl]
 ·rw[af.aK,aj ag];exact M
 ·rw[af.aK,aj ag];exact br
 ·rw[jh];exact Z
 ·rw[jh];exact Q
 rintro ar r ⟨s,bv,ge,⟨e0,e1,e2,G,H⟩,a3,Y,B,W,E,q,al,x,w,bd,be,a9,a',O⟩;obtain⟨C,D,bA⟩:=x.bg;obtain⟨l1,l2,l3⟩:=w.bg;rw[fA];simp only[go_sem,ad1,G,H,q,al,bA,l3];have A:∀(o:cP) y (F:List V) g,g≠0→(r.set 6 o).get y=.cells F g→(∀k,o≠ .cells k g)→(af.one 5 (r.set 6 o).next (cB l B)).get y=.none:=by
  intro o y F g b c h2;rw[af.kE,aj];intro h;rw[h,af.aK,aj ag,E]at c;cases c;exact b rfl
 refine⟨B,_,W,?_,.agg (.cons (.same _) (.cons (.same _) (.cons (.same _) (.cons (F1 (x.set q _) fun y b c=>A _ y _ _ b c (fun k e=>by cases e;exact b rfl)) (.cons (F1 (w.set q _) fun y b c=>A _ y _ _ b c (fun k e=>by cases e;exact b rfl)) .nil))))),oA ⟨a,j,m,s⟩,⟨a,j,m,s⟩,rfl,⟨f,ab,z,O,X,Y⟩,rfl⟩;exact E
def wu(t:ax):List V:=[.str (bh t.1),b6 t.2]
def jQ:List ax→List V
 |[]=>[]
 |t::l=>wu t++jQ l
def eN(l:List ax):V:=.row l.length (jQ l)
theorem ID:∀l,(jQ l).length=l.length*2
 |[]=>rfl
 |t::l=>by
  simp only[jQ,aS,ID l,cL];have:(wu t).length=2:=rfl;omega
theorem Df:∀(l m:List ax),jQ (l++m)=jQ l++jQ m
 |[],_=>rfl
 |t::l,m=>by simp only[eS,jQ,Df l m,eJ]
theorem N3:∀l,bY (jQ l)
 |[]=>.nil
 |t::l=>lu (.cons (.str _) (.cons (oy _) .nil)) (N3 l)
theorem sI(l:List ax):bz (eN l):=.row _ (N3 l)
inductive oZ (H:af) (go:Nat):List V→List ax→Prop
 |nil:oZ H go [] []
 |snoc {xs:List V}{l:List ax}{t:ax}{w:V}{g:Nat} (h:oZ H go xs l) (hw:aI H 1 w (cv t.2) g) (hg:go≠g) (hl:g<H.next):oZ H go (xs++[.str (bh t.1),w]) (l++[t])
variable{b:List V}{l:List ax}
theorem oZ.len(h:oZ c a b l):b.length=l.length*2:=by
 induction h with
 |nil=>rfl
 |snoc h _ _ _ d=>simp only[aS,d,cL,kP];omega
theorem oZ.keep{H':af}(d:oZ c a b l)(k:∀v b g,aI c 1 v b g→a≠g→g<c.next→aI H' 1 v b g∧h≠g∧g<H'.next):oZ H' h b l:=by
 induction d with
 |nil=>exact .nil
 |snoc _ m j hl n=>
  obtain⟨e,f,i⟩:=k _ _ _ m j hl;exact .snoc n e f i
theorem zm{a e d:List V}(h:cD c H a e)(f:cD c H b d):cD c H (a++b) (e++d):=by
 induction a generalizing e with
 |nil=>cases h;exact f
 |cons x a j=>cases h with|cons g i=>exact .cons g (j i)
theorem oZ.di{H:af}(h:oZ H a b l):cD H (af.zero H.next) b (jQ l):=by
 induction h with
 |nil=>exact .nil
 |@snoc b l t w g _ e i hl f=>
  rw[Df];refine zm f (.cons (.same _) (.cons ?_ .nil));obtain⟨n,c,d⟩:=e.di (H2:=af.zero H.next) ag (fun _ _ _=>kN) (cD.refl _)
  rw[j0]at d;have:n=t.2.length:=aa;rw[this]at c;exact c
def S4(p:List ax)(n:Nat)(k:Nat)(F:Fr)(H:af):Prop:=∃(i:Nat) (a:List V) (v:V) (g:Nat),k=p.length-i∧i≤p.length∧rd 1 F=.ptr 5 0∧rd 2 F=.ptr 6 0∧rd 3 F=.ptr 7 0∧rd 4 F=ah (i:Int)∧H.get 5=.cells [ah (n:Int),bG p] 0∧H.get 6=.cells [ah 0,.an] 0∧H.get 7=.cells [ah (n:Int),v] 0∧aI H 2 v a g∧oZ H g a (p.take i)∧8≤H.next
theorem CY{t:ax}(h:l[a]? =some t):l.take (a+1)=l.take a++[t]:=by
 obtain⟨hi,rfl⟩:=fN.1 h;exact kQ hi
theorem IB(p:List ax)(n q:Nat)(hn:0<n∧n≤100)(Z:∀t∈p,t.2.length=n)(hq:∀t∈p,a_ q t.1)(am:q≤30000000)(hl:p.length≤100000000):aW 49 [gu n p] (.agg [ah (n:Int),eN p]):=by
 refine fE (.cons (tV _ _) .nil) (aT alo ?_);simp only[go_sem,d49,ad_,ad9,gu,f_];refine bH (S4 p n) p.length ⟨0,[],.an,0,rfl,bQ _,?_,?_,?_,?_,?_,?_,?_,.nil,.nil,?_⟩ ?_
 iterate 3 simp only[go_sem]
 ·simp only[go_sem];rfl
 iterate 3 simp only[go_sem]
 ·exact aE 8
 rintro k a4 a ⟨i,F,v,g,rfl,hi,E,L,r,s,u,x,br,z,j,a'⟩;obtain⟨k1,k2,bA⟩:=z.bg;rw[ad7];by_cases ac:i<p.length
 ·obtain⟨t,A⟩:∃t,p[i]? =some t:=⟨p[i],cn ac⟩;have Q:t∈p:=eT A;have Y:=Ie A;have K:=yt A;have R:=j.len;rw[dD]at R;simp(disch:=omega)only[go_sem,ad6,E,r,s,u,br,dt,pz,bJ,cE,Y,lp];have P:¬a.next=5:=aa
  have ae:¬a.next=7:=aa
  simp(disch:=omega)only[go_sem,s,pz,bJ,K,P];refine use (uH t.1 (hq t Q) am) ?_;simp(disch:=omega)only[go_sem,u,br,K,P,ae,true_and];have a7:=Z t Q;refine xw (n:=t.2.length) (cs:=cv t.2) (by rw[af.bf,ak rfl]) aa (by rw[j0,dF]) ag ⟨aa,ag⟩ fun w o G V W=>?_
  obtain⟨J,S,rfl⟩:=G.slice aa;have f:∀y,y<a.next→o.get y=a.get y:=fun y hy=>by
   rw[V y (Nat.lt_succ_of_lt hy),af.bf,aj aa]
  have a6:o.next=a.next+3:=W
  have H:=(f 5 aa).trans u;have I:=(f 6 aa).trans x;have D:=(f 7 aa).trans br;have e:aI o 2 v F g:=z.low f aa;have a8:g=0∨g<a.next:=by
   cases z with
   |nil=>exact .inl rfl
   |cells _ _ _ _ _ h _=>exact .inr h
  simp(disch:=omega)only[go_sem,D,true_and];refine gW (bytes:=40) (new:=[.str (bh t.1),.slice J 0 S (.grown 1)]) e rfl ag rfl ⟨aa,ag⟩ fun v2 H3 M T B l U=>?_
  obtain⟨X,n2,rfl⟩:=T.slice aa;have a0:=(l 5 aa (e.ne H)).trans H;have a1:=(l 6 aa (e.ne I)).trans I;have C:=(l 7 aa (e.ne D)).trans D;have O:∀c,g≠c→c<o.next→M≠c:=fun c b d=>by
   rcases B with⟨_,B⟩|⟨_,B⟩
   ·omega
   ·rw[B];exact b
  simp(disch:=omega)only[go_sem,ad5,r,s,C,aH];refine⟨p.length-(i+1),aa,i+1,F++[.str (bh t.1),.slice J 0 S (.grown 1)],.slice X 0 n2 (.grown 2),M,rfl,aa,?_,?_,?_,?_,?_,?_,?_,T.set C _,?_,?_⟩
  iterate 3 simp only[go_sem,E,L,r]
  ·simp only[go_sem];rfl
  ·rw[af.aK,aj ag];exact a0
  ·rw[af.aK,aj ag];exact a1
  ·rw[af.aK,ak rfl]
  ·rw[CY A];refine .snoc (g:=a.next+1+1) (j.keep fun v' a3 c b d N=>⟨?_,O c d aa,?_⟩) ?_ (O _ aa aa) ?_
   ·exact((b.low f aa).other e (g8 U) l (.inr d)).set C _
   ·rw[jh];omega
   ·exact(G.other e (g8 U) l aa).set C _
   ·rw[jh];omega
  ·rw[jh];omega
 ·have ab:i=p.length:=aa;rw[ab,b_ (aE _)]at j;have R:=j.len;simp(disch:=omega)only[go_sem,ad8,E,L,r,s,u,x,br,df,bA];have ap:oZ (a.set 6 (.cells [ah (n:Int),v] 0)) g F p:=j.keep fun v' a3 c b d N=>⟨b.set x _,d,N⟩
  obtain⟨m,b,d⟩:=(z.set x (.cells [ah (n:Int),v] 0)).di (H2:=af.zero _) ag (fun _ _ _=>kN) ap.di;have hm:m=p.length:=aa;rw[hm]at b;exact⟨_,.agg (.cons (.same _) (.cons b .nil)),.agg (.cons (.int _ _) (.cons (sI _) .nil)),rfl⟩
def cj(n:Nat)(p:List ax):List V:=[ah (n:Int),eN p]
def gX(n:Nat)(p:List ax):V:=.agg (cj n p)
def fT(n:Nat):List (List ax)→List V
 |[]=>[]
 |p::l=>cj n p++fT n l
def cA(n:Nat)(l:List (List ax)):V:=.row l.length (fT n l)
theorem rY(n:Nat):∀l,(fT n l).length=l.length*2
 |[]=>rfl
 |p::l=>by
  simp only[fT,aS,rY n l,cL];have:(cj n p).length=2:=rfl;omega
theorem wq(n:Nat):∀(l m:List (List ax)),fT n (l++m)=fT n l++fT n m
 |[],_=>rfl
 |t::l,m=>by simp only[eS,fT,wq n l m,eJ]
theorem BH(n:Nat):∀l,bY (fT n l)
 |[]=>.nil
 |p::l=>lu (.cons (.int _ _) (.cons (sI _) .nil)) (BH n l)
theorem xz(n:Nat)(l:List (List ax)):bz (cA n l):=.row _ (BH n l)
theorem aoa(n:Nat)(l:List (List ax))(i:Nat):(fj n l).drop (i*2)=fj n (l.drop i):=by
 induction l generalizing i with
 |nil=>simp[fj]
 |cons t l a=>
  cases i with
  |zero=>simp[fj]
  |succ i=>
   rw[oe,i_];show(pI n t++fj n l).drop ((pI n t).length+i*2)=fj n (l.drop i);rw[List.drop_length_add_append,a]
theorem aob{n:Nat}(h:K[a]? =some l):cq (eC (fj n K) (a*2)) 2=some (f_ n l):=by
 obtain⟨hi,rfl⟩:=fN.1 h;rw[kG,aoa,lI hi];show cq (pI n K[a]++fj n _) 2=_;rw[e4,ak (by simp[pI])];rfl
@[go_sem]theorem avs(n:Nat)(l:List (List ax)):cT (fZ n l)=some (.val (ah (l.length:Int))):=rfl
variable{q:Int}{n:IntKind}
theorem aiO(h:0≤q∧q<K.length):dJ none 2 [fZ a K,.int n q]=some (.val (.cY (fj a K) (q.toNat*2))):=kh h
theorem Oo{v:V}(d:aI c 2 v (fT a K) h)(e:∀y,h≠0→c.get y=.cells (fT a K) h→H.get y=.none):bR c H v (cA a K):=by
 obtain⟨m,b,f⟩:=d.di (H2:=H) ag e (cD.refl _);rw[rY]at f;have:m=K.length:=aa;rw[this]at b;exact b
def I4(n q:Nat)(p:List ax):Prop:=(∀t∈p,t.2.length=n)∧(∀t∈p,a_ q t.1)∧p.length≤100000000
theorem SE(l:List (List ax))(n q:Nat)(t:0<n∧n≤100)(u:q≤30000000)(w:∀p∈l,I4 n q p)(hl:l.length≤100000000):aW 50 [fZ n l] (cA n l):=by
 refine fE (.cons (FP _ _) .nil) (aT alp ?_);simp only[go_sem,d50,aee,aed];refine bH (fun k a h=>∃(i:Nat) (v:V) (g:Nat),k=l.length-i∧i≤l.length∧rd 0 a=fZ n l∧rd 3 a=v∧rd 4 a=ah (i:Int)∧aI h 2 v (fT n (l.take i)) g) l.length ⟨0,.an,0,rfl,bQ _,?_,?_,?_,.nil⟩ ?_
 iterate 2 simp only[go_sem]
 ·simp only[go_sem];rfl
 rintro k a h ⟨i,v,g,rfl,hi,b,j,c,d⟩;rw[aeb];by_cases s:i<l.length
 ·obtain⟨p,f⟩:∃p,l[i]? =some p:=⟨l[i],cn s⟩;obtain⟨A,B,C⟩:=w p (eT f);have m:=aob (n:=n) f;have x:=rY n (l.take i);rw[dD]at x;simp(disch:=omega)only[go_sem,aea,b,j,c,dt,aiO,bJ,m];refine use (IB p n q t A B u C) ?_;simp(disch:=omega)only[go_sem];refine gW (bytes:=32) (new:=cj n p) d rfl ag rfl ⟨aa,ag⟩ fun z D o y E F G=>?_
  simp(disch:=omega)only[go_sem,ad',c,aH];refine⟨l.length-(i+1),aa,i+1,z,o,rfl,aa,?_,?_,?_,?_⟩
  iterate 2 simp only[go_sem,b]
  ·simp only[go_sem];rfl
  ·obtain⟨r,e⟩:=fN.1 f;rw[kQ r,e,wq];simpa [fT]using y
 ·simp(disch:=omega)only[go_sem,aec,b,j,c,df];rw[(aa:i=l.length),b_ (aE _)]at d;exact⟨_,Oo d (fun _ _ _=>kN),xz _ _,rfl⟩
def xT:Nat→List V
 |1=>[.str [120]]
 |_=>[.str [120],.str [121]]
def eV(n:Nat):V:=.row n (xT n)
theorem FO(n:Nat)(a:n=1∨n=2):bz (eV n):=by
 rcases a with rfl|rfl
 ·exact .row _ (.cons (.str _) .nil)
 ·exact .row _ (.cons (.str _) (.cons (.str _) .nil))
theorem am_:pM 5 pZ 48 [ah 1] (eV 1)=true:=by kernel_rfl
theorem ana:pM 5 pZ 48 [ah 2] (eV 2)=true:=by kernel_rfl
theorem anb(n:Nat)(a:n=1∨n=2):aW 48 [ah (n:Int)] (eV n):=by
 rcases a with rfl|rfl
 ·exact rQ qY am_
 ·exact rQ qY ana
def js(p:fz):V:=.agg [eV p.n,ah (p.n:Int),eN p.obj,cA p.n p.is,cA p.n p.es]
theorem sG(p:fz)(a:p.n=1∨p.n=2):bz (js p):=.agg (.cons (FO _ a) (.cons (.int _ _) (.cons (sI _) (.cons (xz _ _) (.cons (xz _ _) .nil)))))
theorem IC(d:a=1∨a=2)(e:h≤3)(b:q3 a h l):I4 a 15 l:=
 ⟨fun t c=>(Cc d t.2 (b.2.1 t c).1).1,fun t c=>(b.2.1 t c).2.mono aa,by have:=b.2.2;omega⟩
theorem Tm(p:fz)(h:p.aA):aW 9 [fD p] (js p):=by
 have a:=h.n;have c:0<p.n∧p.n≤100:=aa;obtain⟨A,B,C⟩:=IC a ag h.obj;have s:=IB p.obj p.n 15 c A B ag C;have t:=SE p.is p.n 15 c ag (fun q f=>IC a ag (h.is q f)) (by have:=h.li;omega);have u:=SE p.es p.n 15 c ag (fun q f=>IC a ag (h.es q f)) (by have:=h.le;omega);refine fE (.cons (oA _) .nil) (aT nW ?_);simp only[go_sem,d9,afI,fD];refine use (anb p.n a) ?_;have r:(xT p.n).length=p.n*1:=by rcases a with e|e<;>rw[e]<;>rfl
 simp only[go_sem,true_and];refine xw (n:=p.n) (cs:=xT p.n) ?_ c.1 r ag ⟨aa,ag⟩ fun w D g i E=>?_
 ·simp only[go_sem]
 obtain⟨k,z,rfl⟩:=g.slice aa;have b:=i 5 (ag:(5:Nat)<8);have d:=i 6 (ag:(6:Nat)<8);simp only[go_sem]at b d;simp only[go_sem,b,true_and];refine use s ?_;simp only[go_sem,b,true_and];refine use t ?_;simp only[go_sem,b,true_and];refine use u ?_;have v:∀l,bg (cA p.n l)=true:=fun _=>rfl
 have x:∀l,cellsOf (cA p.n l)=[cA p.n l]:=fun _=>rfl
 have bA:∀l,V.one (cA p.n l)=true:=fun _=>rfl
 have G:∀l,bg (eN l)=true:=fun _=>rfl
 have H:∀l,cellsOf (eN l)=[eN l]:=fun _=>rfl
 have y:∀l,V.one (eN l)=true:=fun _=>rfl
 simp only[go_sem,d,v,x,bA,y];obtain⟨m,j,F⟩:=(g.set d (.cells [V.slice k 0 z (Cap.grown 1),V.int .i64 (p.n:Int),eN p.obj,cA p.n p.is,cA p.n p.es] 0)).di (H2:=af.zero _) ag (fun _ _ _=>kN) (cD.refl _);have o:m=p.n:=aa;rw[o]at j;exact⟨_,.agg (.cons j (.cons (.same _) (.cons (.same _) (.cons (.same _) (.cons (.same _) .nil))))),sG p a,rfl⟩
section
open Go.au Tryz
set_option maxRecDepth 100000
attribute [local irreducible] rd kc ex bE bF re rg mv bS pick alloc box bi bs be bp st fa cz cN dI c8 dN eB eA ms dx ek ej dY mx mn dX ap ee cJ dZ d_ cm ec ext er neg Go.au.not en ei ep eo ey eu ef ew dR dP u8
def aet:=ai 60 f60 0
def aeu:=ai 60 f60 1
def MZ:=ai 60 f60 2
def aey:=ai 60 f60 3
def aez:=ai 60 f60 4
def aeA:=ai 60 f60 5
def M0:=ai 60 f60 6
def aeB:=ai 60 f60 7
def aeC:=ai 60 f60 8
def aeD:=ai 60 f60 9
def aev:=ai 60 f60 10
def aew:=ai 60 f60 11
def aex:=ai 60 f60 12
def d60:=aU 60 f60
def alw:=aR f60 60
def Vt:=ai 114 f114 0
def d114:=aU 114 f114
def ajI:=aR f114 114
def Vu:=ai 115 f115 0
def Vv:=ai 115 f115 1
def d115:=aU 115 f115
def ajJ:=aR f115 115
def Lq:=ai 181 f181 0
def Lr:=ai 181 f181 1
def Yk:=ai 181 f181 2
def Yl:=ai 181 f181 3
def d181:=aU 181 f181
def ake:=aR f181 181
def LV:=ai 245 f245 0
def Z4:=ai 245 f245 1
def LW:=ai 245 f245 2
def Z5:=ai 245 f245 3
def Z6:=ai 245 f245 4
def Z7:=ai 245 f245 5
def Z8:=ai 245 f245 6
def Z9:=ai 245 f245 7
def d245:=aU 245 f245
def akF:=aR f245 245
def abE:=ai 305 f305 0
def abF:=ai 305 f305 1
def Md:=ai 305 f305 2
def abH:=ai 305 f305 3
def abI:=ai 305 f305 4
def abJ:=ai 305 f305 5
def abK:=ai 305 f305 6
def abL:=ai 305 f305 7
def abM:=ai 305 f305 8
def abN:=ai 305 f305 9
def abG:=ai 305 f305 10
def d305:=aU 305 f305
def ak1:=aR f305 305
def X0:=ai 163 f163 0
def X1:=ai 163 f163 1
def X2:=ai 163 f163 2
def Le:=ai 163 f163 3
def Lf:=ai 163 f163 4
def X3:=ai 163 f163 5
def Lg:=ai 163 f163 6
def X4:=ai 163 f163 7
def d163:=aU 163 f163
def aj4:=aR f163 163
def zb:=ai 121 f121 0
def VU:=ai 121 f121 1
def vf:=ai 121 f121 2
def VV:=ai 121 f121 3
def VW:=ai 121 f121 4
def VX:=ai 121 f121 5
def VY:=ai 121 f121 6
def d121:=aU 121 f121
def ajN:=aR f121 121
def YI:=ai 186 f186 0
def YJ:=ai 186 f186 1
def EA:=ai 186 f186 2
def YK:=ai 186 f186 3
def YL:=ai 186 f186 4
def d186:=aU 186 f186
def akj:=aR f186 186
def YH:=ai 185 f185 0
def d185:=aU 185 f185
def aki:=aR f185 185
def Z_:=ai 246 f246 0
def aaa:=ai 246 f246 1
def d246:=aU 246 f246
def akG:=aR f246 246
def Me:=ai 306 f306 0
def d306:=aU 306 f306
def ak2:=aR f306 306
def VZ:=ai 122 f122 0
def d122:=aU 122 f122
def ajO:=aR f122 122
def YM:=ai 187 f187 3
def YN:=ai 187 f187 4
def YO:=ai 187 f187 5
def d187:=aU 187 f187
def akk:=aR f187 187
def aab:=ai 247 f247 1
def aac:=ai 247 f247 5
def aad:=ai 247 f247 6
def aae:=ai 247 f247 7
def d247:=aU 247 f247
def akH:=aR f247 247
def abO:=ai 307 f307 0
def abP:=ai 307 f307 1
def Mf:=ai 307 f307 2
def ab0:=ai 307 f307 3
def ab1:=ai 307 f307 4
def ab2:=ai 307 f307 5
def E1:=ai 307 f307 6
def Mg:=ai 307 f307 7
def Mh:=ai 307 f307 8
def Mi:=ai 307 f307 9
def abQ:=ai 307 f307 10
def abR:=ai 307 f307 11
def abS:=ai 307 f307 12
def abT:=ai 307 f307 13
def abU:=ai 307 f307 14
def abV:=ai 307 f307 15
def abW:=ai 307 f307 16
def abX:=ai 307 f307 17
def abY:=ai 307 f307 18
def abZ:=ai 307 f307 19
def d307:=aU 307 f307
def ak3:=aR f307 307
def V2:=ai 123 f123 0
def d123:=aU 123 f123
def ajP:=aR f123 123
def YP:=ai 188 f188 0
def YQ:=ai 188 f188 1
def YU:=ai 188 f188 2
def YV:=ai 188 f188 3
def YW:=ai 188 f188 4
def Lw:=ai 188 f188 5
def YX:=ai 188 f188 6
def YY:=ai 188 f188 7
def YZ:=ai 188 f188 8
def EB:=ai 188 f188 9
def YR:=ai 188 f188 10
def YS:=ai 188 f188 11
def Lv:=ai 188 f188 12
def YT:=ai 188 f188 13
def d188:=aU 188 f188
def akl:=aR f188 188
def ZM:=ai 235 f235 0
def EI:=ai 235 f235 1
def ZN:=ai 235 f235 2
def ZO:=ai 235 f235 3
def ZP:=ai 235 f235 4
def EJ:=ai 235 f235 5
def d235:=aU 235 f235
def aky:=aR f235 235
def L1:=ai 254 f254 0
def L2:=ai 254 f254 1
def aaC:=ai 254 f254 2
def aaD:=ai 254 f254 3
def aaE:=ai 254 f254 4
def aaF:=ai 254 f254 5
def aaG:=ai 254 f254 6
def aaH:=ai 254 f254 7
def ET:=ai 254 f254 8
def d254:=aU 254 f254
def akL:=aR f254 254
def aaI:=ai 255 f255 0
def aaJ:=ai 255 f255 1
def aaK:=ai 255 f255 2
def aaL:=ai 255 f255 3
def aaM:=ai 255 f255 4
def aaN:=ai 255 f255 5
def d255:=aU 255 f255
def akM:=aR f255 255
def ZF:=ai 231 f231 0
def d231:=aU 231 f231
def akv:=aR f231 231
def EK:=ai 236 f236 0
def d236:=aU 236 f236
def akz:=aR f236 236
def X5:=ai 165 f165 0
def d165:=aU 165 f165
def aj5:=aR f165 165
def Er:=ai 124 f124 0
def d124:=aU 124 f124
def ajQ:=aR f124 124
def aaQ:=ai 276 f276 0
def aaR:=ai 276 f276 1
def EU:=ai 276 f276 2
def aaU:=ai 276 f276 3
def aaV:=ai 276 f276 4
def L3:=ai 276 f276 5
def aaW:=ai 276 f276 6
def aaX:=ai 276 f276 7
def aaY:=ai 276 f276 8
def L4:=ai 276 f276 9
def aaS:=ai 276 f276 10
def aaT:=ai 276 f276 11
def d276:=aU 276 f276
def akP:=aR f276 276
def aa':=ai 298 f298 0
def L9:=ai 298 f298 1
def EV:=ai 298 f298 2
def EW:=ai 298 f298 3
def EX:=ai 298 f298 4
def aba:=ai 298 f298 5
def abb:=ai 298 f298 6
def d298:=aU 298 f298
def akW:=aR f298 298
def aa0:=ai 288 f288 0
def d288:=aU 288 f288
def akR:=aR f288 288
def Zq:=ai 224 f224 0
def d224:=aU 224 f224
def akq:=aR f224 224
def aa1:=ai 290 f290 0
def aa2:=ai 290 f290 1
def L5:=ai 290 f290 2
def aa3:=ai 290 f290 3
def aa4:=ai 290 f290 4
def aa5:=ai 290 f290 5
def aa6:=ai 290 f290 6
def aa7:=ai 290 f290 7
def d290:=aU 290 f290
def akS:=aR f290 290
def aaf:=ai 248 f248 0
def LX:=ai 248 f248 1
def d248:=aU 248 f248
def O0:=aR f248 248
def aaB:=ai 253 f253 0
def L0:=ai 253 f253 1
def d253:=aU 253 f253
def akK:=aR f253 253
def Ml:=ai 314 f314 0
def Mm:=ai 314 f314 1
def Mn:=ai 314 f314 2
def Mr:=ai 314 f314 3
def acy:=ai 314 f314 4
def Ms:=ai 314 f314 5
def Mt:=ai 314 f314 6
def Mu:=ai 314 f314 7
def Mv:=ai 314 f314 8
def acz:=ai 314 f314 9
def acf:=ai 314 f314 10
def acg:=ai 314 f314 11
def ach:=ai 314 f314 12
def aci:=ai 314 f314 13
def acj:=ai 314 f314 14
def ack:=ai 314 f314 15
def acm:=ai 314 f314 16
def acn:=ai 314 f314 17
def aco:=ai 314 f314 18
def acp:=ai 314 f314 19
def acq:=ai 314 f314 20
def acr:=ai 314 f314 21
def acs:=ai 314 f314 22
def acu:=ai 314 f314 23
def acv:=ai 314 f314 24
def acw:=ai 314 f314 25
def Mo:=ai 314 f314 26
def Mp:=ai 314 f314 27
def Mq:=ai 314 f314 28
def d314:=aU 314 f314
def O4:=aR f314 314
def acd:=ai 313 f313 0
def ace:=ai 313 f313 1
def d313:=aU 313 f313
def ak6:=aR f313 313
def aaZ:=ai 277 f277 0
def d277:=aU 277 f277
def akQ:=aR f277 277
def ab9:=ai 311 f311 0
def ab_:=ai 311 f311 1
def ab':=ai 311 f311 2
def d311:=aU 311 f311
def ak5:=aR f311 311
def abc:=ai 299 f299 0
def L_:=ai 299 f299 1
def EY:=ai 299 f299 2
def EZ:=ai 299 f299 3
def E0:=ai 299 f299 4
def abd:=ai 299 f299 5
def abe:=ai 299 f299 6
def d299:=aU 299 f299
def akX:=aR f299 299
def ac1:=ai 355 f355 0
def d355:=aU 355 f355
def ak':=aR f355 355
end
def SY(b:List UInt8):Prop:=∀c l,b=c::l→¬eg c
theorem UZ(a b:List UInt8)(t:∀c∈a,eg c)(u:SY b)(hl:a.length+b.length≤1000000000):aW 186 [.str (a++b)] (.az [.str a,.str b]):=by
 refine cO (.cons (.str _) .nil) (.az (.cons (.str _) (.cons (.str _) .nil))) (aT akj ?_);simp only[go_sem,d186,YL,YK];have j:(a++b).length=a.length+b.length:=aS;refine bH (fun k l q=>∃i:Nat,k=a.length-i∧i≤a.length∧rd 0 l=.str (a++b)∧rd 4 l=ah (i:Int)) a.length ⟨0,rfl,bQ _,?_,?_⟩ ?_
 ·simp only[go_sem]
 ·simp only[go_sem];rfl
 rintro k l q ⟨i,rfl,hi,d,f⟩;rw[YJ];by_cases w:i<a.length
 ·obtain⟨c,e⟩:∃c,(a++b)[i]? =some c:=⟨_,cn aa⟩;have v:c∈a:=by
   rw[lJ w]at e;exact eT e
  have p:=t c v;have r:=p.1;have s:=p.2;have g:kF [.str (a++b),ah (i:Int)]=some (.val (.int .u8 (c.toNat:Int))):=oE aa (by rw[bJ];exact e);simp(disch:=omega)only[go_sem,YI,d,f,j,dt,df,g,aH];refine⟨a.length-(i+1),aa,i+1,rfl,aa,?_,?_⟩
  ·simp only[go_sem,d]
  ·simp only[go_sem];rfl
 ·have m:i=a.length:=aa;have n:slice3 k4 false true false [.str (a++b),ah (i:Int)]=some (.val (.str a)):=by
   rw[CT ⟨aa,aa⟩,bJ,m,p_]
  have o:slice3 k4 true false false [.str (a++b),ah (i:Int)]=some (.val (.str b)):=by
   rw[we ⟨aa,aa⟩,bJ,m,uS]
  cases b with
  |nil=>
   have x:(a++[]).length=a.length:=aB;simp(disch:=omega)only[go_sem,EA,d,f,x,df,n,o]
  |cons c b=>
   have e:(a++c::b)[i]? =some c:=by rw[m,q4 (aE _)];simp
   have y:=u c b rfl;have g:kF [.str (a++c::b),ah (i:Int)]=some (.val (.int .u8 (c.toNat:Int))):=oE aa (by rw[bJ];exact e);simp only[cL]at j;by_cases r:c.toNat<48
   ·simp(disch:=omega)only[go_sem,EA,d,f,j,dt,g,n,o]
   ·have s:57<c.toNat:=by
     refine oa fun h=>y ⟨aa,aa⟩
    simp(disch:=omega)only[go_sem,EA,d,f,j,dt,df,g,n,o]
theorem aim(s:List UInt8)(hl:s.length≤1000000000):aW 306 [.str s,.str [45]] (.bool (decide (s.take 1=[45]))):=by
 refine cO (.cons (.str _) (.cons (.str _) .nil)) (.bool _) (aT ak2 ?_);cases s with
 |nil=>simp(disch:=omega)only[go_sem,d306,Me,kP,gH,jT,Int.natCast_one,dt];rfl
 |cons c s=>
  have a:((([45]:List UInt8).length:Nat):Int)=1:=rfl;have d:¬(((c::s).length:Nat):Int)<1:=by simp;omega
  have b:slice3 k4 false true false [.str (c::s),ah 1]=some (.val (.str ((c::s).take 1))):=CT ⟨ag,by simp;omega⟩;simp(disch:=assumption)only[go_sem,d306,Me,a,df,b]
theorem U0(s:List UInt8)(hl:s.length≤1000000000):aW 185 [.str s,.str [45]] (if s.take 1=[45]then .az [.str (s.drop 1),bO]else .az [.str s,aD]):=by
 have a:aW 246 [.str s,.str [45]] (if s.take 1=[45]then .az [.str (s.drop 1),bO]else .az [.str s,aD]):=by
  refine cO (.cons (.str _) (.cons (.str _) .nil)) (by split<;>exact .az (.cons (.str _) (.cons (.bool _) .nil))) (aT akG ?_);simp only[go_sem,d246,aaa];refine use (aim s hl) ?_;by_cases h:s.take 1=[45]
  ·have b:((([45]:List UInt8).length:Nat):Int)=1:=rfl;have e:1≤s.length:=by
    cases s with
    |nil=>cases h
    |cons c s=>simp
   have d:slice3 k4 true false false [.str s,ah 1]=some (.val (.str (s.drop 1))):=we ⟨ag,aa⟩;simp(disch:=assumption)only[go_sem,Z_,dt,b,d];rw[ak h]
  ·simp(disch:=assumption)only[go_sem,df];rw[aj h]
 refine cO (.cons (.str _) (.cons (.str _) .nil)) (by split<;>exact .az (.cons (.str _) (.cons (.bool _) .nil))) (aT aki ?_);simp only[go_sem,d185,YH];refine use a ?_;split
 iterate 2 simp only[go_sem]
theorem afK:dec a=[49]↔a=1:=by
 have b:dec 1=[49]:=by
  show(if 1=0 then _ else ds 1)=_;rw[aj ag,qo ag,show 1/10=0 from rfl,nh];rfl
 constructor
 ·intro h;exact Fs (h.trans b.symm)
 ·intro h;rw[h];exact b
def aq(n:Nat):List Nat:=if h:n=0 then []else n%18446744073709551616::aq (n/18446744073709551616)
termination_by n
decreasing_by omega
theorem jY:aq 0=[]:=by rw[aq];simp
theorem FC(h:a≠0):aq a=a%18446744073709551616::aq (a/18446744073709551616):=by rw[aq];simp[h]
theorem FD(h:a≠0)(b:a<18446744073709551616):aq a=[a]:=by
 rw[FC h,jV b,m4 b,jY]
theorem jd(n:Nat):0<(aq n).length↔n≠0:=by
 constructor
 ·intro h e;rw[e,jY]at h;exact absurd h (Nat.lt_irrefl _)
 ·intro h;rw[FC h];exact lf _
def aL(l:List Nat):List V:=l.map fun d:Nat=>V.int .u64 (d:Int)
def bl(l:List Nat):V:=.row l.length (aL l)
theorem eM(l:List Nat):(aL l).length=l.length:=by simp[aL]
theorem ag3(l:List Nat):bY (aL l):=bY.iff.2 fun v h=>by
 simp only[aL,k_]at h;obtain⟨d,_,rfl⟩:=h;exact .int _ _
theorem dr(l:List Nat):bz (bl l):=.row _ (ag3 l)
@[go_sem]theorem avz(l:List Nat):cT (bl l)=some (.val (ah (l.length:Int))):=rfl
@[go_sem]theorem avg(l:List Nat):bg (bl l)=true:=rfl
@[go_sem]theorem auz(l:List Nat):cellsOf (bl l)=[bl l]:=rfl
@[go_sem]theorem av3(l:List Nat):V.one (bl l)=true:=rfl
variable{d:List Nat}
theorem gN(h:0≤q∧q<d.length):dJ none 1 [bl d,.int n q]=some (.val (.cY (aL d) q.toNat)):=by
 rw[bl,kh h,dF]
theorem dw(h:a<d.length):cK (aL d) a=some (ay ((d.getD a 0:Nat):Int)):=by
 rw[gF];simp[aL,h]
def dg(z:Int):List V:=[.bool (decide (z<0)),bl (aq z.natAbs)]
def b5(z:Int):V:=.agg (dg z)
theorem ag2(z:Int):bY (dg z):=.cons (.bool _) (.cons (dr _) .nil)
theorem gD(z:Int):bz (b5 z):=.agg (ag2 z)
theorem hH(n:Nat):b5 (n:Int)=.agg [aD,bl (aq n)]:=by
 unfold b5 dg;rw[show decide (((n:Nat):Int)<0)=false from aZ aa];rfl
theorem Uv(s:List UInt8)(O:∀c∈s,eg c)(hl:s.length≤19)(gL:Nat)(A:Cap)(F:Fr)(H:af)(R:X→Fr→af→Prop)(r:rd 23 F=.slice gL 0 s.length A)(u:rd 24 F=ah (s.length:Int))(B:rd 25 F=ah 0)(C:rd 5 F=ay 0)(D:rd 6 F=ay 1)(E:H.get gL=.cells (cl s) 0)
 (G:∀b,(∀t,t<5→rd t b=rd t F)→rd 5 b=ay ((dv s:Nat):Int)→rd 6 b=ay ((10^s.length:Nat):Int)→R (.exit 2) b H):bx (.loop (pc 307 3)) R F H:=by
 refine bH (fun k a q=>∃i:Nat,k=s.length-i∧i≤s.length∧(∀t,t<5→rd t a=rd t F)∧rd 23 a=rd 23 F∧rd 24 a=rd 24 F∧rd 25 a=ah (i:Int)∧rd 5 a=ay ((dv (s.take i):Nat):Int)∧rd 6 a=ay ((10^i:Nat):Int)∧dv (s.take i)<10^i∧q=H) s.length
  ⟨0,rfl,bQ _,fun _ _=>rfl,rfl,rfl,B,by rw[C];rfl,by rw[D];rfl,by simp[dv],rfl⟩ ?_
 rintro k a q ⟨i,rfl,hi,w,j,f,v,g,h,z,rfl⟩;rw[r]at j;rw[u]at f;rw[ab0];by_cases L:i<s.length
 ·obtain⟨c,l⟩:∃c,s[i]? =some c:=⟨_,cn L⟩;have x:=O c (eT l);have S:=x.1;have T:=x.2;have J:cK (cl s) i=some (.int .u8 (c.toNat:Int)):=by rw[gF,cl,iy,l];rfl
  have M:10^i≤10^18:=gl ag aa;have P:s.take (i+1)=s.take i++[c]:=by
   obtain⟨K,e⟩:=fN.1 l;rw[kQ K,e]
  have m:dv (s.take (i+1))=10*dv (s.take i)+(c.toNat-48):=by rw[P,xp]
  have n:10^(i+1)=10^i*10:=cQ _ _;obtain⟨d,I⟩:∃d,d=dv (s.take i):=⟨_,rfl⟩;obtain⟨p,N⟩:∃p,p=10^i:=⟨_,rfl⟩;rw[←I]at g z m;rw[←N]at h z M n;have U:(cl s).length=s.length:=jc s;have V:aC .u64 ((c.toNat:Int)-48)=((c.toNat-48:Nat):Int):=by rw[bW _ aa];omega
  have Q:aC .u8 ((c.toNat:Int)-48)=((c.toNat-48:Nat):Int):=by rw[FL _ aa];omega
  simp(disch:=omega)only[go_sem,Mf,abP,abO,j,f,v,g,h,dt,b3,dF,dK,bJ,E,J,Q,bW,aH];refine⟨s.length-(i+1),aa,i+1,rfl,aa,fun t o=>?_,?_,?_,?_,?_,?_,?_,rfl⟩
  ·simp(disch:=omega)only[bV];exact w t o
  iterate 2 simp only[go_sem,j,r,f,u]
  ·simp only[go_sem];rfl
  ·simp only[go_sem];rw[m];congr 1
  ·simp only[go_sem];rw[n];congr 1
  ·rw[m,n];omega
 ·have y:i=s.length:=aa;rw[y,b_ (aE _)]at g;rw[y]at h;simp(disch:=omega)only[go_sem,Mf,f,v,df];refine G _ (fun t o=>?_) ?_ ?_
  ·simp(disch:=omega)only[bV];exact w t o
  iterate 2 simp only[go_sem,g,h]
theorem ow(s:List UInt8)(a:∀c∈s,eg c):dv s<10^s.length:=by
 have:∀r:List UInt8,(∀c∈r,eg c)→dv r.reverse<10^r.length:=by
  intro r;induction r with
  |nil=>intro _;decide
  |cons c r d=>
   intro h;have e:=d fun x b=>h x (by simp[b])
   have f:=(h c aB).2;rw[List.reverse_cons,xp,cL,cQ];omega
 have:=this s.reverse (by simpa using a);simpa using this
theorem amq(s:List UInt8):lmap (fun b=>V.int .u8 (.ofNat b.toNat)) s=cl s:=by
 induction s with
 |nil=>rfl
 |cons a s c=>show _::lmap _ s=_;rw[c];rfl
theorem aht{v:V}(h:aI c 1 v (aL d) a):bR c (af.zero c.next) v (bl d):=by
 obtain⟨n,b,e⟩:=h.di (H2:=af.zero c.next) ag (fun _ _ _=>kN) (cD.refl _)
 rw[eM]at e;have:n=d.length:=aa;rw[this]at b;exact b
theorem v7(s:Bool)(n:Nat):aW 236 [.bool s,bl (aq n)] (b5 (if s then-(n:Int)else n)):=by
 refine cO (.cons (.bool _) (.cons (dr _) .nil)) (gD _) (aT akz ?_);have hl:=jd n;cases s with
 |false=>
  simp only[go_sem,d236,EK,ie];rw[hH]
 |true=>
  by_cases h:n=0
  ·have a:¬(0:Int)<(((aq n).length:Nat):Int):=by rw[h,jY];decide
   simp(disch:=assumption)only[go_sem,d236,EK,df];rw[h];rfl
  ·have a:(0:Int)<(((aq n).length:Nat):Int):=by have:=hl.2 h;omega
   simp(disch:=assumption)only[go_sem,d236,EK,dt];unfold b5 dg;rw[bk (aa: -((n:Nat):Int)<0),mZ,dB]
theorem arW(z:Int):aW 231 [b5 z] (b5 (-z)):=by
 refine cO (.cons (gD _) .nil) (gD _) (aT akv ?_);simp only[go_sem,d231,ZF,b5,dg];refine use (v7 _ _) ?_;simp only[go_sem,b5,dg];have:(if(!decide (z<0))=true then-((z.natAbs:Nat):Int)else(z.natAbs:Int))= -z:=by
  by_cases h:z<0
  ·simp[h];omega
  ·simp[h];omega
 rw[this]
theorem BX(z:Int):aW 165 [b5 z] (.bool (decide (z=0))):=by
 refine cO (.cons (gD _) .nil) (.bool _) (aT aj5 ?_);have hl:=jd z.natAbs;have e:decide ((((aq z.natAbs).length:Nat):Int)=0)=decide (z=0):=decide_eq_decide.2 aa;simp only[go_sem,d165,X5,b5,dg,e]
theorem age:aq 1=[1]:=FD ag ag
end Go.Proofs.YtddhncjmaahodaaGreatDoor
namespace Go.aF
def tz(n:Nat):Nat:=if h:n=0∨n%2=1 then 0 else 1+tz (n/2)
termination_by n
decreasing_by omega
variable{a:Nat}
theorem Si(h:a%2=1):tz a=0:=by rw[tz];simp[h]
theorem Sh(b:a≠0)(h:a%2=0):tz a=1+tz (a/2):=by
 rw[tz];rw[dif_neg];rintro(e|e)
 ·exact b e
 ·omega
theorem Ax(b:a≠0):a=2^tz a*(a/2^tz a)∧a/2^tz a%2=1:=by
 induction a using jD with
 |ind a f=>
  by_cases h:a%2=1
  ·rw[Si h];simp[h]
  ·have e:a%2=0:=aa;obtain⟨c,d⟩:=f (a/2) aa aa;rw[Sh b e,i_,cQ,bK (2^_) 2,←oX];refine⟨?_,d⟩;rw[bT,←c];omega
variable{h:Nat}
theorem C9{k:Nat}(e:h≠0)(d:h<2^k):tz h<k:=by
 obtain⟨b,f⟩:=Ax e;obtain⟨o,g⟩:∃o,o=h/2^tz h:=⟨_,rfl⟩;rw[←g]at b f;have c:2^tz h*1≤2^tz h*o:=fy _ aa;rw[←b,dF]at c;exact(Nat.pow_lt_pow_iff_right (a:=2) ag).1 (eY c d)
theorem Pg(a b:Nat):a&&&b=2*(a/2&&&b/2)+(a%2&&&b%2):=by
 have d:=Nat.and_div_two (a:=a) (b:=b);have c:=Nat.and_mod_two_pow (a:=a) (b:=b) (n:=1);simp only[Nat.pow_one]at c;omega
theorem Ph:∀(w m:Nat),m<2^w→m&&&(2^w-1-m)=0
 |0,m,h=>by
  have:m=0:=by simp at h;exact h
  rw[this];simp
 |w+1,m,h=>by
  have b:2^(w+1)=2*2^w:=by rw[cQ,bK]
  have c:0<2^w:=fl ag;rw[Pg];have a:(2^(w+1)-1-m)/2=2^w-1-m/2:=aa;rw[a,Ph w (m/2) aa];rcases Nat.mod_two_eq_zero_or_one m with h0|h0
  ·rw[h0];simp
  ·have:(2^(w+1)-1-m)%2=0:=aa;rw[this];simp
theorem Pj:∀(w n:Nat),n≠0→n<2^w→n&&&(2^w-n)=2^tz n
 |0,n,b,h=>by simp at h;exact absurd h b
 |w+1,n,b,h=>by
  have d:2^(w+1)=2*2^w:=by rw[cQ,bK]
  rw[Pg];rcases Nat.mod_two_eq_zero_or_one n with he|he
  ·have a:(2^(w+1)-n)/2=2^w-n/2:=aa;rw[a,Pj w (n/2) aa aa,he,Sh b he,i_ 1,cQ];simp;omega
  ·have a:(2^(w+1)-n)/2=2^w-1-n/2:=aa;have c:(2^(w+1)-n)%2=1:=aa;rw[a,Ph w (n/2) aa,he,c,Si he];simp
theorem GV(k:Nat)(c:a%2=1):cx a (2^k*h)=cx a h:=by
 have b:Nat.Coprime 2 a:=by
  have:=Nat.gcd_rec 2 a;rw[c]at this;rw[Nat.Coprime,this];decide
 exact Nat.Coprime.gcd_mul_left_cancel_right h (b.pow_left k)
theorem anQ(k:Nat)(b:a%2=1):cx (2^k*h) a=cx h a:=by
 rw[qd,GV k b,qd]
variable{u:Nat}
theorem ahG{y:Nat}(q:u≠0)(F:y≠0):cx u y=2^tz (u|||y)*cx (u/2^tz u) y:=by
 have s:u|||y≠0:=fun e=>q (Nat.or_eq_zero_iff.1 e).1
 obtain⟨l,g⟩:=Ax s;obtain⟨k,v⟩:∃k,k=tz (u|||y):=⟨_,rfl⟩;rw[←v]at l g⊢;have w:(u|||y)%2^k=0:=by rw[l];exact Nat.mul_mod_right _ _
 rw[Nat.or_mod_two_pow,Nat.or_eq_zero_iff]at w;have c:u=2^k*(u/2^k):=by have:=jm u (2^k);omega
 have j:y=2^k*(y/2^k):=by have:=jm y (2^k);omega
 obtain⟨X,m⟩:∃X,X=u/2^k:=⟨_,rfl⟩;obtain⟨Y,p⟩:∃Y,Y=y/2^k:=⟨_,rfl⟩;rw[Nat.or_div_two_pow,←m,←p]at g;rw[←m]at c;rw[←p]at j;obtain⟨f,r⟩:=Ax q;obtain⟨o,x⟩:∃o,o=u/2^tz u:=⟨_,rfl⟩;rw[←x]at f r⊢;have t:cx u y=2^k*cx X Y:=by
  rw[c,j,Nat.gcd_mul_left]
 have A:cx o y=cx o Y:=by rw[j,GV k r]
 rw[t,A];congr 1;have C:k≤tz u:=by
  refine jC fun D=>?_
  have e:2^k=2^tz u*(2*2^(k-tz u-1)):=by rw[←Nat.pow_succ',←gw];congr 1;omega
  rw[e]at c;rw[bT,bT]at c;have:=Nat.eq_of_mul_eq_mul_left (fl ag) (f.symm.trans c);omega
 have i:X=2^(tz u-k)*o:=by
  have e:2^tz u=2^k*2^(tz u-k):=by rw[←gw];congr 1;omega
  rw[e,bT]at f;exact Nat.eq_of_mul_eq_mul_left (fl (n:=k) (ag:0<2)) (c.symm.trans f)
 have z:X%2=1∨Y%2=1:=by
  have d:=Nat.or_mod_two_pow (a:=X) (b:=Y) (n:=1);simp only[Nat.pow_one]at d;rw[g]at d;rcases Nat.mod_two_eq_zero_or_one X with h4|h4
  ·rcases Nat.mod_two_eq_zero_or_one Y with h5|h5
   ·rw[h4,h5]at d;simp at d
   ·exact .inr h5
  ·exact .inl h4
 rcases z with h|h
 ·have B:tz u-k=0:=by
   refine Nat.eq_zero_of_not_pos fun E=>?_
   have e:2^(tz u-k)=2*2^(tz u-k-1):=by rw[←Nat.pow_succ'];congr 1;omega
   rw[i,e,bT]at h;omega
  rw[i,B,nK,ga]
 ·rw[i,anQ _ h]
end Go.aF
namespace Go.Proofs.YtddhncjmaahodaaGreatDoor
open Go.au Go.aF
def nC:List Nat:=[0,1,56,2,57,49,28,3,61,58,42,50,38,29,17,4,62,47,59,36,45,43,51,22,53,39,33,30,24,18,12,5,63,55,48,27,60,41,37,16,46,35,44,21,52,32,23,11,54,26,40,15,34,20,31,10,25,14,19,9,13,8,7,6]
def qR:List Nat:=[0,1,28,2,29,14,24,3,30,22,20,15,25,17,4,8,31,27,13,23,21,19,16,7,26,12,18,6,11,5,10,9]
def mQ:List Nat:=[1,10,100,1000,10000,100000,1000000,10000000,100000000,1000000000,10000000000,100000000000,1000000000000,10000000000000,100000000000000,1000000000000000,10000000000000000,100000000000000000,1000000000000000000,10000000000000000000]
def qU(l:List Nat):List V:=l.map fun d:Nat=>V.int .u8 (d:Int)
def wo(l:List Nat):List V:=l.map fun d:Nat=>V.int .u64 (d:Int)
theorem N2(l:List Nat):bY (qU l):=bY.iff.2 fun v h=>by
 simp only[qU,k_]at h;obtain⟨d,_,rfl⟩:=h;exact .int _ _
theorem ag1(l:List Nat):bY (wo l):=bY.iff.2 fun v h=>by
 simp only[wo,k_]at h;obtain⟨d,_,rfl⟩:=h;exact .int _ _
def cZ:af:=(((af.zero 5).set 0 (.cells (wo mQ) 0)).set 1 (.cells (qU nC) 0)).set 4 (.cells (qU qR) 0)
@[go_sem]theorem PY:cZ.next=5:=rfl
theorem kD(y:Nat):cZ.get y=if y=4 then .cells (qU qR) 0 else if y=1 then .cells (qU nC) 0 else if y=0 then .cells (wo mQ) 0 else .none:=by
 unfold cZ;simp only[af.aK,af.e7,eq_comm]
theorem Ao:yQ 5 cZ:=by
 refine⟨rfl,fun y a=>?_,fun y=>?_⟩
 ·rw[kD,aj aa,aj aa,aj aa]
 ·rw[kD];split
  ·exact .inr ⟨_,rfl,N2 _⟩
  ·split
   ·exact .inr ⟨_,rfl,N2 _⟩
   ·split
    ·exact .inr ⟨_,rfl,ag1 _⟩
    ·exact .inl rfl
def GT(H:af):Prop:=Has H cZ
variable{c:af}
theorem GT.nC(h:GT c):c.get 1=.cells (qU nC) 0:=h 1 _ (by rw[kD];rfl)
theorem GT.mQ(h:GT c):c.get 0=.cells (wo mQ) 0:=h 0 _ (by rw[kD];rfl)
theorem GT.qR(h:GT c):c.get 4=.cells (qU qR) 0:=h 4 _ (by rw[kD];rfl)
theorem GT.keep{H':af}(h:GT c)(b:∀y,y<5→H'.get y=c.get y):GT H':=fun y a e=>by
 rw[b y (Ao.cells e).1];exact h y a e
theorem fB:GT cZ:=fun _ _ e=>e
variable{a:Nat}
theorem GT.set(h:GT c)(b:5≤a)(o:cP):GT (c.set a o):=h.keep fun y d=>by rw[af.aK,aj aa]
theorem GT.push(h:GT c)(a:5≤c.next)(o:cP):GT (c.push o):=h.keep fun y b=>by rw[af.bf,aj aa]
def c4(f:Nat)(b:List V)(r:V):Prop:=∀H,GT H→c7 f b H fun v a=>v=r∧a=H
variable{b:List V}{s:V}
theorem dm(e:bY b)(h:c7 a b cZ fun f c=>GT c∧∃v,bR c (cZ.mz c.next) f v∧bz v∧v=s):c4 a b s:=
 fun H d=>aow (R:=fun v=>v=s) Ao e h H d
variable{i:Option Nat}{e:Fr→af→Prop}{m:Fr}{A:FuncId}
theorem bL(h:c4 A b s)(f:GT c)(g:e (put m i s) c):oQ eP 5 i e m c (some (.fn A,b)):=
 (h c f).mono fun v j ⟨a,d⟩=>by rw[a,d];exact g
theorem bZ{v:V}(b:GT c)(h:v=s)(a:bz s):GT c∧∃u,bR c (cZ.mz c.next) v u∧bz u∧u=s:=⟨b,v,.same v,by rw[h];exact a,h⟩
variable{h:Nat}
theorem Ti{a:Nat}(b:a<18446744073709551616)(c:h<18446744073709551616):g9 (hU .and) [ay (a:Int),ay (h:Int)]=some (.val (ay ((a&&&h:Nat):Int))):=by
 show some (aY.val (ay (nN (pO .u64) (dM .u64) (Nat.land (gQ (dM .u64) (a:Int)) (gQ (dM .u64) (h:Int))))))=_;rw[uA b,uA c,y2];rfl
variable{u:Nat}{L:Nat}{q:Int}{n:IntKind}
theorem OO(b:0≤q∧q<a):dJ (some a) h [.ptr u L,.int n q]=some (.val (.ptr u (L+q.toNat*h))):=by
 show ao (gm (.int n q)) _=_;rw[mw n b.1];show aQ (bM (q.toNat+1) a) _=_;rw[jH aa];rfl
theorem aqL:∀k,k<64→nC[2^k*285870213051353865%18446744073709551616/288230376151711744]? =some k∧2^k*285870213051353865%18446744073709551616/288230376151711744<64:=ag
theorem Il(n:Nat)(a:n≠0)(h:n<18446744073709551616):c4 313 [ay (n:Int)] (ah (tz n:Int)):=by
 refine dm (.cons (.int _ _) .nil) (aT ak6 ?_);have i:=C9 (k:=64) a h;have hl:=Pj 64 n a h;obtain⟨c,o⟩:=aqL (tz n) i;have q:¬((n:Nat):Int)=0:=aa;have k:aC .u64 (-(n:Int))=((18446744073709551616-n:Nat):Int):=by rw[hJ];omega
 have d:g9 (hU .and) [ay (n:Int),ay ((18446744073709551616-n:Nat):Int)]=some (.val (ay ((2^tz n:Nat):Int))):=by
  rw[Ti h aa];rw[show(18446744073709551616:Nat)-n=2^64-n from rfl,hl]
 have b:aC .u64 (((2^tz n:Nat):Int)*285870213051353865)=((2^tz n*285870213051353865%18446744073709551616:Nat):Int):=by
  rw[hJ,Int.natCast_emod,fU];rfl
 obtain⟨p,l⟩:∃p,p=2^tz n*285870213051353865%18446744073709551616:=⟨_,rfl⟩;rw[←l]at c o b;have m:rR (p:Int) (dU 58 (gK .u64))=((p/288230376151711744:Nat):Int):=rfl;have g:dJ (some 64) 1 [.ptr 1 0,ay ((p/288230376151711744:Nat):Int)]=some (.val (.ptr 1 (p/288230376151711744))):=by
  rw[OO ⟨aa,aa⟩,bJ,dF,dK]
 have j:cK (qU nC) (p/288230376151711744)=some (.int .u8 ((tz n:Nat):Int)):=by
  rw[gF,qU,iy,c];rfl
 have f:cZ.get 1=.cells (qU nC) 0:=fB.nC;have e:aC .i64 ((tz n:Nat):Int)=(tz n:Int):=aH _ aa;simp(disch:=assumption)only[go_sem,d313,ace,acd,df,k,d,b,m,g,f,j,e];exact bZ fB rfl (.int _ _)
theorem G0{y:Nat}(h:a<18446744073709551616∧y<18446744073709551616):g9 (hU .or) [ay (a:Int),ay (y:Int)]=some (.val (ay ((a|||y:Nat):Int))):=by
 show some (aY.val (ay (nN (pO .u64) (dM .u64) (Nat.lor (gQ (dM .u64) (a:Int)) (gQ (dM .u64) (y:Int))))))=_;rw[uA h.1,uA h.2,y2];rfl
theorem RH(n k:Nat)(a:k<64):g9 (hU .shr) [ay (n:Int),ah (k:Int)]=some (.val (ay ((n/2^k:Nat):Int))):=by
 rw[TD,mS,kZ (show k≤gK .u64 from by show k≤64;omega)]
def SS(d:Nat)(s:Nat)(k:Nat)(F:Fr)(H:af):Prop:=∃x y:Nat,k=x+y∧rd 0 F=ay (x:Int)∧rd 1 F=ay (y:Int)∧rd 5 F=ah (s:Int)∧x%2=1∧x<18446744073709551616∧y<18446744073709551616∧cx x y=d∧GT H
theorem ahD(x y:Nat)(g:x<18446744073709551616)(t:y<18446744073709551616):c4 254 [ay (x:Int),ay (y:Int)] (ay (cx x y:Int)):=by
 refine dm (.cons (.int _ _) (.cons (.int _ _) .nil)) (aT akL ?_);by_cases f:x=0
 ·subst f;have d:g9 (hU .or) [ay ((0:Nat):Int),ay (y:Int)]=some (.val (ay (y:Int))):=by rw[G0 ⟨ag,t⟩];simp
  simp only[go_sem,d254,ET,jT,decide_true]at d⊢;simp only[go_sem,d];rw[Nat.gcd_zero_left];exact bZ fB rfl (.int _ _)
 have U:¬((x:Nat):Int)=0:=aa;by_cases D:y=0
 ·subst D;have d:g9 (hU .or) [ay (x:Int),ay ((0:Nat):Int)]=some (.val (ay (x:Int))):=by rw[G0 ⟨g,ag⟩];simp
  simp(disch:=assumption)only[go_sem,d254,ET,df,jT,decide_true]at d⊢;simp only[go_sem,d];rw[Nat.gcd_zero_right];exact bZ fB rfl (.int _ _)
 have V:¬((y:Nat):Int)=0:=aa;have C:x|||y≠0:=fun e=>f (Nat.or_eq_zero_iff.1 e).1
 have B:x|||y<18446744073709551616:=Nat.or_lt_two_pow (n:=64) g t
 have r:=ahG f D;have N:=C9 (k:=64) C B;have P:=C9 (k:=64) f g;obtain⟨W,E⟩:=Ax f;simp(disch:=first|assumption|omega)only[d254,ET,aaH,go_sem,↓reduceIte,kR,df,G0]
 refine bL (Il _ C B) fB ?_;simp only[go_sem,aaG];refine bL (Il _ f g) fB ?_;simp only[go_sem,aaF,RH x _ P];have z:x/2^tz x<18446744073709551616:=eY (jn _ _) g;obtain⟨o,d⟩:∃o,o=x/2^tz x:=⟨_,rfl⟩;rw[←d]at r z E⊢;obtain⟨s,M⟩:∃s,s=tz (x|||y):=⟨_,rfl⟩;rw[←M]at r N⊢;refine bH (SS (cx o y) s) (o+y) ⟨o,y,rfl,?_,?_,?_,E,z,t,rfl,fB⟩ ?_
 iterate 3 simp only[go_sem]
 rintro k Q R ⟨a,b,rfl,h,u,m,v,I,w,p,j⟩;rw[aaD];by_cases i:b=0
 ·subst i;rw[Nat.gcd_zero_right]at p;have O:g9 (hU .shl) [ay (a:Int),ah (s:Int)]=some (.val (ay ((cx x y:Nat):Int))):=by
   rw[TC,kZ (show s≤gK .u64 from by show s≤64;omega),←fU,p,bK,←r,bW];have:cx x y≤x:=Nat.gcd_le_left _ aa;omega
  simp only[go_sem,aaE,h,u,m,jT,decide_true,O];exact bZ j rfl (.int _ _)
 ·have S:¬((b:Nat):Int)=0:=aa;have J:=C9 (k:=64) i w;obtain⟨F,G⟩:=Ax i;have L:b/2^tz b≤b:=jn _ _;simp(disch:=assumption)only[go_sem,aaC,u,df];refine bL (Il _ i w) j ?_;obtain⟨c,K⟩:∃c,c=b/2^tz b:=⟨_,rfl⟩;have q:=RH b _ J;rw[←K]at F G L q;have A:cx a c=cx o y:=by rw[←p,F,GV _ v]
  by_cases T:c<a
  ·have H:((c:Nat):Int)<((a:Nat):Int):=aa;have l:(a:Int)-(c:Int)=((a-c:Nat):Int):=aa;simp(disch:=first|assumption|omega)only[L2,L1,go_sem,↓reduceIte,kR,h,q,dt,l,bW]
   refine⟨c+(a-c),aa,c,a-c,rfl,?_,?_,?_,G,aa,aa,?_,j⟩
   iterate 3 simp only[go_sem,m]
   ·rw[Nat.gcd_sub_self_right aa,qd];exact A
  ·have H:¬((c:Nat):Int)<((a:Nat):Int):=aa;have l:(c:Int)-(a:Int)=((c-a:Nat):Int):=aa;simp(disch:=first|assumption|omega)only[L2,L1,go_sem,↓reduceIte,kR,h,q,df,l,bW]
   refine⟨a+(c-a),aa,a,c-a,rfl,?_,?_,?_,v,I,aa,?_,j⟩
   iterate 3 simp only[go_sem,h,m]
   ·rw[Nat.gcd_sub_self_right aa];exact A
def fe(a b:Int):Int:=if a<b then-1 else if b<a then 1 else 0
theorem PR(a:Int):aW 288 [ah a] aD:=by
 refine cO (.cons (.int _ _) .nil) (.bool _) (aT akR ?_);simp only[go_sem,d288,aa0,decide_true]
theorem PS(a:Int):aW 355 [ay a] aD:=by
 refine cO (.cons (.int _ _) .nil) (.bool _) (aT ak' ?_);simp only[go_sem,d355,ac1,decide_true]
theorem A2(a b:Int):aW 298 [ah a,ah b] (ah (fe a b)):=by
 refine cO (.cons (.int _ _) (.cons (.int _ _) .nil)) (.int _ _) (aT akW ?_);simp only[go_sem,d298,abb];refine use (PR a) ?_;simp only[go_sem,aba];refine use (PR b) ?_;by_cases c:a<b
 ·simp(disch:=assumption)only[go_sem,EX,EW,EV,dt];rw[fe,ak c]
 ·by_cases d:b<a
  ·simp(disch:=assumption)only[go_sem,EX,EW,EV,L9,dt,df];rw[fe,aj c,ak d]
  ·simp(disch:=assumption)only[go_sem,EX,EW,EV,L9,aa',df];rw[fe,aj c,aj d]
theorem KI(a b:Int):aW 299 [ay a,ay b] (ah (fe a b)):=by
 refine cO (.cons (.int _ _) (.cons (.int _ _) .nil)) (.int _ _) (aT akX ?_);simp only[go_sem,d299,abe];refine use (PS a) ?_;simp only[go_sem,abd];refine use (PS b) ?_;by_cases c:a<b
 ·simp(disch:=assumption)only[go_sem,E0,EZ,EY,dt];rw[fe,ak c]
 ·by_cases d:b<a
  ·simp(disch:=assumption)only[go_sem,E0,EZ,EY,L_,dt,df];rw[fe,aj c,ak d]
  ·simp(disch:=assumption)only[go_sem,E0,EZ,EY,L_,abc,df];rw[fe,aj c,aj d]
theorem afT(a w:Nat)(b:a<18446744073709551616)(g:0<w∧w<18446744073709551616):aW 314 [ay 0,ay (a:Int),ay (w:Int)] (.az [ay ((a/w:Nat):Int),ay ((a%w:Nat):Int)]):=by
 refine cO (.cons (.int _ _) (.cons (.int _ _) (.cons (.int _ _) .nil))) (.az (.cons (.int _ _) (.cons (.int _ _) .nil))) (aT O4 ?_);have e:¬((w:Nat):Int)=0:=aa;have f:(0:Int)<((w:Nat):Int):=aa;have c:a/w<18446744073709551616:=eY (jn _ _) b;have d:aC .u64 ((a/w:Nat):Int)=((a/w:Nat):Int):=bW _ ⟨uR _,m0.2 c⟩;simp(disch:=assumption)only[go_sem,d314,Mq,Mp,Mo,df,dt,decide_true,jG,mB,uG,yq,d]
theorem BL(w:Nat)(b:w<18446744073709551616):aW 253 [ay (w:Int)] (bl (aq w)):=by
 refine fE (.cons (.int _ _) .nil) (aT akK ?_);by_cases h:w=0
 ·have a:((w:Nat):Int)=0:=aa;simp(disch:=assumption)only[go_sem,d253,L0,dt];rw[h,jY];exact⟨_,.fK,.row 0 .nil,rfl⟩
 ·have a:¬((w:Nat):Int)=0:=aa;simp(disch:=assumption)only[go_sem,d253,L0,aaB,df];rw[FD h b];refine⟨bl [w],.row (m:=1) (cs:=aL [w]) ?_ ag kN (cD.refl _),dr _,rfl⟩;rw[fJ (cs:=aL [w]) (by simp only[go_sem];rfl)];rfl
def b9(q:Rat):List V:=[.bool (decide (q.num<0)),bl (aq q.num.natAbs),aD,bl (aq (dd q))]
def c5(q:Rat):V:=.agg (b9 q)
theorem FR(q:Rat):bY (b9 q):=.cons (.bool _) (.cons (dr _) (.cons (.bool _) (.cons (dr _) .nil)))
theorem kW(q:Rat):bz (c5 q):=.agg (FR q)
section
open Go.au Tryz
set_option maxRecDepth 100000
attribute [local irreducible] rd kc ex bE bF re rg mv bS pick alloc box bi bs be bp st fa cz cN dI c8 dN eB eA ms dx ek ej dY mx mn dX ap ee cJ dZ d_ cm ec ext er neg Go.au.not en ei ep eo ey eu ef ew dR dP u8
def Lh:=ai 166 f166 0
def zd:=ai 166 f166 1
def ze:=ai 166 f166 2
def xd:=ai 166 f166 3
def d166:=aU 166 f166
def aj6:=aR f166 166
def X7:=ai 168 f168 0
def d168:=aU 168 f168
def OU:=aR f168 168
def Li:=ai 169 f169 0
def Lj:=ai 169 f169 1
def d169:=aU 169 f169
def OV:=aR f169 169
def Yb:=ai 172 f172 0
def Ba:=ai 172 f172 1
def d172:=aU 172 f172
def aj_:=aR f172 172
def Yc:=ai 173 f173 0
def d173:=aU 173 f173
def aj':=aR f173 173
def Yf:=ai 177 f177 0
def Yg:=ai 177 f177 1
def Lo:=ai 177 f177 2
def d177:=aU 177 f177
def akc:=aR f177 177
def Yh:=ai 178 f178 0
def Yi:=ai 178 f178 1
def Lp:=ai 178 f178 2
def d178:=aU 178 f178
def akd:=aR f178 178
def Zj:=ai 218 f218 0
def Lz:=ai 218 f218 1
def LA:=ai 218 f218 2
def LB:=ai 218 f218 3
def d218:=aU 218 f218
def ako:=aR f218 218
def ZG:=ai 232 f232 2
def ZH:=ai 232 f232 3
def ZI:=ai 232 f232 4
def ZJ:=ai 232 f232 5
def LN:=ai 232 f232 6
def EG:=ai 232 f232 7
def d232:=aU 232 f232
def OZ:=aR f232 232
def ZL:=ai 234 f234 0
def EH:=ai 234 f234 1
def d234:=aU 234 f234
def akx:=aR f234 234
def ZQ:=ai 237 f237 0
def ZR:=ai 237 f237 1
def LP:=ai 237 f237 2
def ZS:=ai 237 f237 3
def Bc:=ai 237 f237 15
def Bd:=ai 237 f237 16
def LO:=ai 237 f237 17
def d237:=aU 237 f237
def akA:=aR f237 237
def ZT:=ai 238 f238 0
def LQ:=ai 238 f238 1
def d238:=aU 238 f238
def akB:=aR f238 238
def ZU:=ai 239 f239 0
def ZV:=ai 239 f239 1
def ZW:=ai 239 f239 2
def ZX:=ai 239 f239 3
def LR:=ai 239 f239 4
def LS:=ai 239 f239 5
def d239:=aU 239 f239
def akC:=aR f239 239
def ZY:=ai 240 f240 0
def ZZ:=ai 240 f240 1
def Z0:=ai 240 f240 2
def LU:=ai 240 f240 3
def d240:=aU 240 f240
def akD:=aR f240 240
def Z1:=ai 241 f241 0
def Z2:=ai 241 f241 1
def Z3:=ai 241 f241 2
def d241:=aU 241 f241
def akE:=aR f241 241
def aag:=ai 249 f249 0
def aah:=ai 249 f249 1
def aan:=ai 249 f249 2
def aao:=ai 249 f249 3
def aap:=ai 249 f249 4
def aaq:=ai 249 f249 5
def aar:=ai 249 f249 6
def aas:=ai 249 f249 7
def aat:=ai 249 f249 8
def aau:=ai 249 f249 9
def aai:=ai 249 f249 10
def EL:=ai 249 f249 11
def aaj:=ai 249 f249 12
def aak:=ai 249 f249 13
def aal:=ai 249 f249 14
def aam:=ai 249 f249 15
def d249:=aU 249 f249
def akI:=aR f249 249
def EM:=ai 250 f250 0
def EN:=ai 250 f250 1
def d250:=aU 250 f250
def Gh:=aR f250 250
def LY:=ai 251 f251 0
def aav:=ai 251 f251 1
def LZ:=ai 251 f251 2
def aaw:=ai 251 f251 3
def aax:=ai 251 f251 4
def aay:=ai 251 f251 5
def aaz:=ai 251 f251 6
def aaA:=ai 251 f251 7
def d251:=aU 251 f251
def akJ:=aR f251 251
def EO:=ai 252 f252 0
def EP:=ai 252 f252 1
def xj:=ai 252 f252 2
def ER:=ai 252 f252 3
def ES:=ai 252 f252 4
def d252:=aU 252 f252
def Gi:=aR f252 252
def L7:=ai 297 f297 5
def L8:=ai 297 f297 6
def d297:=aU 297 f297
def O3:=aR f297 297
def abf:=ai 300 f300 0
def abg:=ai 300 f300 1
def Ma:=ai 300 f300 2
def abh:=ai 300 f300 3
def abi:=ai 300 f300 4
def abj:=ai 300 f300 5
def abk:=ai 300 f300 6
def d300:=aU 300 f300
def akY:=aR f300 300
def abl:=ai 302 f302 0
def abm:=ai 302 f302 1
def Mb:=ai 302 f302 2
def abn:=ai 302 f302 3
def abo:=ai 302 f302 4
def abp:=ai 302 f302 5
def abq:=ai 302 f302 6
def abr:=ai 302 f302 7
def abt:=ai 302 f302 8
def abu:=ai 302 f302 9
def d302:=aU 302 f302
def akZ:=aR f302 302
def abv:=ai 303 f303 0
def abw:=ai 303 f303 1
def Mc:=ai 303 f303 2
def abx:=ai 303 f303 3
def aby:=ai 303 f303 4
def abz:=ai 303 f303 5
def abA:=ai 303 f303 6
def abB:=ai 303 f303 7
def abC:=ai 303 f303 8
def abD:=ai 303 f303 9
def d303:=aU 303 f303
def ak0:=aR f303 303
def ab3:=ai 308 f308 0
def d308:=aU 308 f308
def ak4:=aR f308 308
def ab4:=ai 310 f310 0
def ab5:=ai 310 f310 1
def Mj:=ai 310 f310 2
def ab6:=ai 310 f310 3
def Mk:=ai 310 f310 4
def ab7:=ai 310 f310 5
def ab8:=ai 310 f310 6
def E8:=ai 310 f310 7
def E9:=ai 310 f310 8
def E_:=ai 310 f310 9
def E2:=ai 310 f310 10
def E3:=ai 310 f310 11
def E4:=ai 310 f310 12
def E5:=ai 310 f310 13
def E6:=ai 310 f310 14
def E7:=ai 310 f310 15
def d310:=aU 310 f310
def Gj:=aR f310 310
def acG:=ai 354 f354 0
def acH:=ai 354 f354 1
def acM:=ai 354 f354 2
def acU:=ai 354 f354 3
def acV:=ai 354 f354 4
def acW:=ai 354 f354 5
def acX:=ai 354 f354 6
def acY:=ai 354 f354 7
def acZ:=ai 354 f354 8
def ac0:=ai 354 f354 9
def Mx:=ai 354 f354 10
def acI:=ai 354 f354 11
def My:=ai 354 f354 12
def acJ:=ai 354 f354 13
def acK:=ai 354 f354 14
def acL:=ai 354 f354 19
def acN:=ai 354 f354 20
def acO:=ai 354 f354 21
def acP:=ai 354 f354 22
def acQ:=ai 354 f354 23
def acR:=ai 354 f354 24
def acS:=ai 354 f354 25
def acT:=ai 354 f354 26
def d354:=aU 354 f354
def O5:=aR f354 354
def ac2:=ai 356 f356 0
def ac3:=ai 356 f356 1
def ac5:=ai 356 f356 2
def ac6:=ai 356 f356 3
def ac7:=ai 356 f356 4
def ac8:=ai 356 f356 5
def ac9:=ai 356 f356 6
def ac_:=ai 356 f356 7
def ada:=ai 356 f356 8
def adb:=ai 356 f356 9
def ac4:=ai 356 f356 10
def d356:=aU 356 f356
def ala:=aR f356 356
def ade:=ai 358 f358 0
def adf:=ai 358 f358 1
def Mz:=ai 358 f358 2
def adg:=ai 358 f358 3
def adh:=ai 358 f358 4
def adi:=ai 358 f358 5
def adj:=ai 358 f358 6
def adk:=ai 358 f358 7
def Fa:=ai 358 f358 8
def d358:=aU 358 f358
def alb:=aR f358 358
def Be:=ai 363 f363 0
def Bf:=ai 363 f363 1
def xk:=ai 363 f363 2
def MB:=ai 363 f363 3
def MC:=ai 363 f363 4
def MD:=ai 363 f363 5
def ME:=ai 363 f363 6
def MF:=ai 363 f363 7
def Bg:=ai 363 f363 8
def d363:=aU 363 f363
def Gk:=aR f363 363
def adp:=ai 364 f364 0
def adq:=ai 364 f364 1
def adr:=ai 364 f364 2
def ads:=ai 364 f364 3
def adt:=ai 364 f364 4
def adu:=ai 364 f364 5
def adv:=ai 364 f364 6
def d364:=aU 364 f364
def ald:=aR f364 364
def MG:=ai 365 f365 0
def MH:=ai 365 f365 1
def MJ:=ai 365 f365 2
def MK:=ai 365 f365 3
def Bh:=ai 365 f365 4
def adw:=ai 365 f365 5
def adx:=ai 365 f365 6
def ady:=ai 365 f365 7
def ML:=ai 365 f365 8
def MM:=ai 365 f365 9
def MI:=ai 365 f365 10
def d365:=aU 365 f365
def ale:=aR f365 365
def adz:=ai 366 f366 0
def adA:=ai 366 f366 1
def MN:=ai 366 f366 2
def adB:=ai 366 f366 3
def adC:=ai 366 f366 4
def adD:=ai 366 f366 5
def adE:=ai 366 f366 6
def d366:=aU 366 f366
def alf:=aR f366 366
end
end Go.Proofs.YtddhncjmaahodaaGreatDoor
namespace Go.W
def val:List Nat→Nat
 |[]=>0
 |d::l=>d+18446744073709551616*val l
def aA(l:List Nat):Prop:=∀d∈l,d<18446744073709551616
def aO(l:List Nat):Prop:=l.getLast?≠some 0
variable{a:Nat}{d:List Nat}
theorem aA.cons(h:aA (a::d)):a<18446744073709551616∧aA d:=⟨h a aB,fun x b=>h x (by simp[b])⟩
theorem aA.mk(h:a<18446744073709551616)(b:aA d):aA (a::d):=fun x hx=>by
 rcases g7.1 hx with rfl|hx
 ·exact h
 ·exact b x hx
theorem aA.nil:aA []:=fun _ h=>by cases h
theorem aA.take(h:aA d)(n:Nat):aA (d.take n):=fun x a=>h x (uT a)
theorem aA.drop(h:aA d)(n:Nat):aA (d.drop n):=fun x a=>h x (List.mem_of_mem_drop a)
theorem aA.app{m:List Nat}(h:aA d)(a:aA m):aA (d++m):=fun x hx=>by
 rcases gI.1 hx with hx|hx
 ·exact h x hx
 ·exact a x hx
theorem aA.getD(h:aA d)(i:Nat):d.getD i 0<18446744073709551616:=by
 rw[bX];cases e:d[i]? with
 |none=>simp
 |some x=>exact h x (eT e)
theorem gS:∀ {l:List Nat},aA l→val l<18446744073709551616^l.length
 |[],_=>by simp[val]
 |d::l,h=>by
  have a:=gS h.cons.2;have b:=h.cons.1;simp only[val,cL,cQ];omega
theorem fF:∀(l m:List Nat),val (l++m)=val l+18446744073709551616^l.length*val m
 |[],m=>by simp[val]
 |d::l,m=>by
  simp only[eS,val,cL,cQ,fF l m,bD];rw[bK (18446744073709551616^l.length) 18446744073709551616,bT,jl]
theorem HW(h:a<d.length):d=d.take a++d.getD a 0::d.drop (a+1):=by
 rw[bX,cn h];simp
theorem qV{l:List Nat}{i:Nat}(h:i<l.length):val l=val (l.take i)+18446744073709551616^i*(l.getD i 0+18446744073709551616*val (l.drop (i+1))):=by
 have e:=congrArg val (HW h);rw[fF,g6 (g8 h)]at e;exact e
variable{h:Nat}
theorem zC{a:List Nat}(e:aA a)(hi:h<a.length)(f:h<d.length)(b:a.drop (h+1)=d.drop (h+1))(i:a.getD h 0<d.getD h 0):val a<val d:=by
 rw[qV hi,qV f,b];have c:=gS (e.take h);rw[g6 (g8 hi)]at c;have g:18446744073709551616^h*(a.getD h 0+18446744073709551616*val (d.drop (h+1)))+18446744073709551616^h≤18446744073709551616^h*(d.getD h 0+18446744073709551616*val (d.drop (h+1))):=by
  rw[←Nat.mul_succ];exact fy _ aa
 omega
theorem aO.pos(h:aO d)(a:d≠[]):18446744073709551616^(d.length-1)≤val d:=by
 have hl:0<d.length:=List.length_pos_iff.2 a;have hi:d.length-1<d.length:=aa;rw[qV hi];have:d.getD (d.length-1) 0≠0:=by
  intro e;refine h ?_;rw[List.getLast?_eq_getElem?,cn hi];rw[bX,cn hi]at e;exact congrArg some e
 have b:18446744073709551616^(d.length-1)*1≤18446744073709551616^(d.length-1)*(d.getD (d.length-1) 0+18446744073709551616*val (d.drop (d.length-1+1))):=fy _ aa;omega
theorem sX{a:List Nat}(b:aA a)(c:aO d)(h:a.length<d.length):val a<val d:=by
 have f:=gS b;have g:=c.pos (by intro e;rw[e]at h;exact absurd h (ke _));have i:18446744073709551616^a.length≤18446744073709551616^(d.length-1):=gl aa aa;omega
theorem val_inj:∀ {a b:List Nat},aA a→aA b→a.length=b.length→val a=val b→a=b
 |[],[],_,_,_,_=>rfl
 |x::a,y::b,c,d,hl,h=>by
  have g:=c.cons.1;have i:=d.cons.1;simp only[val]at h;have e:x=y:=aa;have f:val a=val b:=aa;rw[e,val_inj c.cons.2 d.cons.2 (by simpa using hl) f]
theorem canon{a:List Nat}(b:aA a)(c:aA d)(e:aO a)(f:aO d)(h:val a=val d):a=d:=by
 rcases Nat.lt_trichotomy a.length d.length with h1|h1|h1
 ·have:=sX b f h1;omega
 ·exact val_inj b c h1 h
 ·have:=sX c e h1;omega
def trim:List Nat→List Nat
 |[]=>[]
 |d::l=>if trim l=[]∧d=0 then []else d::trim l
theorem yy(l:List Nat):trim (l++[0])=trim l:=by
 induction l with
 |nil=>rfl
 |cons d l a=>simp only[eS,trim,a]
theorem yw(l:List Nat)(d:Nat)(h:d≠0):trim (l++[d])=l++[d]:=by
 induction l with
 |nil=>simp[trim,h]
 |cons e l a=>simp only[eS,trim,a];simp
theorem yC:∀l,val (trim l)=val l
 |[]=>rfl
 |d::l=>by
  have a:=yC l;unfold trim;split
  ·rename_i h;rw[h.1]at a;simp only[val]at a⊢;omega
  ·simp only[val,a]
theorem yx:∀ {l:List Nat},aA l→aA (trim l)
 |[],h=>h
 |d::l,h=>by
  unfold trim;split
  ·exact aA.nil
  ·exact .mk h.cons.1 (yx h.cons.2)
theorem Ar:∀l,aO (trim l)
 |[]=>by simp[trim,aO]
 |d::l=>by
  have a:=Ar l;unfold trim;split
  ·simp[aO]
  ·rename_i h;unfold aO at*;cases e:trim l with
   |nil=>
    rw[e]at h;simp at h;simpa using h
   |cons x m=>
    rw[e]at a;simpa using a
def aN(n:Nat):List Nat:=if h:n=0 then []else n%18446744073709551616::aN (n/18446744073709551616)
termination_by n
decreasing_by omega
theorem iV:aN 0=[]:=by unfold aN;simp
theorem o_(h:a≠0):aN a=a%18446744073709551616::aN (a/18446744073709551616):=by rw[aN];simp[h]
theorem fM(n:Nat):val (aN n)=n:=by
 induction n using jD with
 |ind n a=>
  by_cases h:n=0
  ·subst h;rw[iV];rfl
  ·rw[o_ h];simp only[val,a (n/18446744073709551616) aa];omega
theorem gP(n:Nat):aA (aN n):=by
 induction n using jD with
 |ind n a=>
  by_cases h:n=0
  ·subst h;rw[iV];exact aA.nil
  ·rw[o_ h];exact .mk aa (a _ aa)
theorem pS(n:Nat):aO (aN n):=by
 induction n using jD with
 |ind n b=>
  by_cases h:n=0
  ·subst h;rw[iV];simp[aO]
  ·rw[o_ h];have:=b (n/18446744073709551616) aa;unfold aO at*;cases e:aN (n/18446744073709551616)with
   |nil=>
    by_cases a:n/18446744073709551616=0
    ·have:n%18446744073709551616≠0:=aa;simpa using this
    ·rw[o_ a]at e;cases e
   |cons x m=>
    rw[e]at this;simpa using this
theorem Bj(h:aA d)(t:aO d):aN (val d)=d:=canon (gP _) h (pS _) t (fM _)
theorem pT(h:aA d):trim d=aN (val d):=by
 rw[←yC d];exact(Bj (yx h) (Ar d)).symm
variable{u:Nat}
theorem vh(c:h<18446744073709551616^u):(aN h).length≤u:=by
 by_cases e:aN h=[]
 ·rw[e];exact bQ _
 ·have b:=(pS h).pos e;rw[fM]at b;have d:(aN h).length-1<u:=(Nat.pow_lt_pow_iff_right (a:=18446744073709551616) aa).1 aa;omega
section
variable {q top u2 mb v1 v2 nG W U V:Nat}
theorem zw(c:V=(v1*18446744073709551616+v2)*W+nG)(b:U=(top*18446744073709551616+u2)*W+mb)(g:mb<W)(f:q*V≤U):q*(v1*18446744073709551616+v2)≤top*18446744073709551616+u2:=by
 obtain⟨X,d⟩:∃X,X=v1*18446744073709551616+v2:=⟨_,rfl⟩;obtain⟨T,hT⟩:∃T,T=top*18446744073709551616+u2:=⟨_,rfl⟩;rw[←d]at c⊢;rw[←hT]at b⊢;have e:q*X*W≤q*V:=by
  rw[bT];exact fy _ aa
 have a:q*X*W<(T+1)*W:=by
  rw[cF,ga];omega
 have:=tH a;omega
theorem B2(b:V=(v1*18446744073709551616+v2)*W+nG)(a:U=(top*18446744073709551616+u2)*W+mb)(d:mb<W)(f:u2<18446744073709551616)(e:0<v1)(c:q*V≤U):q≤top/v1:=by
 have h:=zw b a d c;rw[bD,←bT]at h;rw[tG e];omega
theorem B3{h r:Nat}(c:V=(v1*18446744073709551616+v2)*W+nG)(b:U=(top*18446744073709551616+u2)*W+mb)(f:mb<W)(d:q*V≤U)(e:top=h*v1+r)(j:r*18446744073709551616+u2<h*v2):q<h:=by
 rcases mj q h with h1|h1
 ·exact h1
 ·have g:=zw c b f d;have a:h*(v1*18446744073709551616+v2)≤q*(v1*18446744073709551616+v2):=dn _ h1;rw[bD,←bT]at a;have i:top*18446744073709551616=h*v1*18446744073709551616+r*18446744073709551616:=by rw[e,cF]
  omega
theorem B4(d:V=(v1*18446744073709551616+v2)*W+nG)(c:U=(top*18446744073709551616+u2)*W+mb)(l:nG<W)(p:0<v1)(k:top=a*v1+h)(hh:a<18446744073709551616)(o:a*v2≤h*18446744073709551616+u2):(a-1)*V≤U:=by
 cases a with
 |zero=>simp
 |succ g=>
  have m:top*18446744073709551616=(g+1)*v1*18446744073709551616+h*18446744073709551616:=by rw[k,cF]
  have b:(g+1)*(v1*18446744073709551616+v2)≤top*18446744073709551616+u2:=by
   rw[bD,←bT];omega
  have j:18446744073709551616≤v1*18446744073709551616+v2:=aa;obtain⟨X,f⟩:∃X,X=v1*18446744073709551616+v2:=⟨_,rfl⟩;obtain⟨T,e⟩:∃T,T=top*18446744073709551616+u2:=⟨_,rfl⟩;rw[←f]at d b j;rw[←e]at c b;have i:(g+1)*X*W≤T*W:=dn _ b;rw[cF g 1 X,ga,cF]at i;have n:g*nG≤X*W:=j_ aa (g8 l);show g*V≤U;rw[d,c,bD,←bT];omega
end
theorem rW:∀ {l:List Nat}{k:Nat},(∀p,k≤p→l.getD p 0=0)→val l=val (l.take k)
 |[],_,_=>aB
 |d::l,0,h=>by
  have b:=h 0 (aE _);have a:=rW (l:=l) (k:=0) (fun p _=>by simpa using h (p+1) (bQ _));simp at b a;simp[val,b,a]
 |d::l,k+1,h=>by
  have a:=rW (l:=l) (k:=k) (fun p c=>by simpa using h (p+1) aa);simp only[List.take_succ_cons,val,a]
theorem pV(l:List Nat)(j:Nat)(h:j≤l.length):val l=val (l.take j)+18446744073709551616^j*val (l.drop j):=by
 have:=congrArg val (p9 j l);rw[fF,g6 h]at this;exact this.symm
theorem rE(l:List Nat)(j p:Nat):(l.drop j).getD p 0=l.getD (j+p) 0:=by
 simp[bX,q5]
theorem uK{l:List Nat}{i:Nat}(h:i<l.length):val (l.drop i)=l.getD i 0+18446744073709551616*val (l.drop (i+1)):=by
 rw[lI h,bX,cn h];rfl
theorem vG{l:List Nat}{n:Nat}(e:2≤n)(f:n≤l.length)(d:∀p,n≤p→l.getD p 0=0):val l=(l.getD (n-1) 0*18446744073709551616+l.getD (n-2) 0)*18446744073709551616^(n-2)+val (l.take (n-2)):=by
 have c:val (l.drop n)=0:=by
  have:=rW (l:=l.drop n) (k:=0) (fun p _=>by rw[rE];exact d _ aa);simpa [val]using this
 have a:=qV (l:=l) (i:=n-2) aa;have b:=uK (l:=l) (i:=n-1) aa;rw[(aa:n-1+1=n)]at b;rw[(aa:n-2+1=n-1)]at a;rw[a,b,c,fc,cE,bK _ (18446744073709551616^(n-2)),i_ (val _),i_ (l.getD (n-2) 0),bK 18446744073709551616]
section
variable {T U V h k bu P Q IE SJ Dh asf q:Nat}
end
def shr(s:Nat):List Nat→List Nat
 |[]=>[]
 |[d]=>[d/2^s]
 |d::e::l=>(d/2^s+(e%2^s)*2^(64-s))::shr s (e::l)
theorem ta(s:Nat):∀l,(shr s l).length=l.length
 |[]=>rfl
 |[_]=>rfl
 |d::e::l=>by simp[shr,ta s (e::l)]
theorem As(b:a≤63):(18446744073709551616:Nat)=2^a*2^(64-a):=by
 rw[←gw,(aa:a+(64-a)=64)]
theorem yd(b:a≤63):∀l,val (shr a l)=val l/2^a
 |[]=>by simp[shr,val]
 |[d]=>by simp[shr,val]
 |d::e::l=>by
  have i:=yd b (e::l);have h:0<2^a:=fl aa;have f:val (e::l)%2^a=e%2^a:=by
   show(e+18446744073709551616*val l)%2^a=e%2^a;rw[As b,bT,Nat.add_mul_mod_self_left]
  have g:val (d::e::l)/2^a=d/2^a+2^(64-a)*val (e::l):=by
   show(d+18446744073709551616*val (e::l))/2^a=_;rw[As b,bT,Nat.add_mul_div_left _ _ h]
  have c:=jm (val (e::l)) (2^a);rw[f]at c;rw[g];show d/2^a+(e%2^a)*2^(64-a)+18446744073709551616*val (shr a (e::l))=_;rw[i,As b,tJ (2^a),bK (2^a*(val (e::l)/2^a)),bK (e%2^a),jl,←bD,i_ (e%2^a),c]
theorem v5(b:a≤63):∀ {l},aA l→aA (shr a l)
 |[],h=>h
 |[d],h=>by
  have:=h.cons.1;exact .mk (eY (jn _ _) this) aA.nil
 |d::e::l,h=>by
  refine .mk ?_ (v5 b h.cons.2);have c:0<2^a:=fl aa;have g:=h.cons.1;have i:d/2^a<2^(64-a):=by
   rw[q8 c,bK,←As b];exact g
  have f:(e%2^a+1)*2^(64-a)≤2^a*2^(64-a):=dn _ (eU _ c);rw[←As b,cF,ga]at f;omega
theorem yc{s:Nat}:∀ {l:List Nat}{i:Nat},i<l.length→(shr s l).getD i 0=l.getD i 0/2^s+(l.getD (i+1) 0%2^s)*2^(64-s)
 |[],_,h=>absurd h (ke _)
 |[d],0,_=>by simp[shr]
 |[_],_+1,h=>by simp at h
 |d::e::l,0,_=>by simp[shr]
 |d::e::l,i+1,h=>by
  have a:=yc (s:=s) (l:=e::l) (i:=i) (by simpa using h);simpa [shr]using a
end Go.W
namespace Go.aF
structure oc (e_ iS bu u1 u2 v0 v1 v2 f s:Nat) (ji:Bool):Prop where
 hF:e_=v2*f+v1*s
 hS:iS=u2*f+u1*s
 hd:(ji=true→u2*v1=u1*v2+1)∧(ji=false→u1*v2=u2*v1+1)
 sf:s≤f
 fp:1≤f
 Is:1≤v2
 Ir:u2≤v2
 ph:(v1=0∧v0=0∧u1=1∧u2=0∧v2=1)∨(1≤v1∧u1≤v1∧(v0=0∧ji=true∨1≤v0∧bu≤v0)∧∃p,e_=v1*p+v0*f∧iS=u1*p+bu*f∧v1≤f∧f+v0+v1≤p∧(ji=true→bu*v1=u1*v0+1)∧(ji=false→u1*v0=bu*v1+1))
variable{a:Nat}{h:Nat}
theorem oc.start(b:h≤a)(c:1≤a):oc a h 0 1 0 0 0 1 a h false:=
 ⟨aa,aa,⟨(fun b=>by cases b),fun _=>rfl⟩,b,c,aE _,aa,.inl ⟨rfl,rfl,rfl,rfl,rfl⟩⟩
theorem rJ{a:Nat}(b:1≤h):a≤a*h:=by
 have:=fy a b;rwa[dF]at this
section
variable {e_ iS bu u1 u2 v0 v1 v2 f s:Nat}{ji:Bool}
theorem oc.small(h:oc e_ iS bu u1 u2 v0 v1 v2 f s ji):v2≤e_∧(1≤s→v1+v2≤e_):=by
 have b:=h.hF;have c:v2≤v2*f:=rJ h.fp;refine⟨aa,fun a=>?_⟩;have d:v1≤v1*s:=rJ a;omega
theorem oc.step(h:oc e_ iS bu u1 u2 v0 v1 v2 f s ji)(n:v2≤s)(z:s+(v1+v2)≤f):oc e_ iS u1 u2 (u1+f/s*u2) v1 v2 (v1+f/s*v2) s (f%s) (!ji):=by
 have p:=h.Is;have l:0<s:=aa;obtain⟨q,i⟩:∃q,q=f/s:=⟨_,rfl⟩;obtain⟨r,j⟩:∃r,r=f%s:=⟨_,rfl⟩;have k:f=s*q+r:=by rw[i,j];exact(jm f s).symm
 have E:r<s:=by rw[j];exact eU _ l
 have o:1≤q:=by rw[i];exact(tG l).2 aa
 rw[←i,←j];clear i j;have A:=h.hF;have B:=h.hS;have t:v2*f=v2*s*q+v2*r:=by rw[k,bD,bT]
 have u:u2*f=u2*s*q+u2*r:=by rw[k,bD,bT]
 have v:(v1+q*v2)*s=v1*s+v2*s*q:=by
  rw[cF,bT q v2 s,bK q]
 have w:(u1+q*u2)*s=u1*s+u2*s*q:=by
  rw[cF,bT q u2 s,bK q]
 have x:(u1+q*u2)*v2=u1*v2+u2*v2*q:=by
  rw[cF,bT q u2 v2,bK q]
 have y:u2*(v1+q*v2)=u2*v1+u2*v2*q:=by
  rw[bD,bK q v2,←bT]
 have D:v2≤q*v2:=by rw[bK];exact rJ o
 have m:=h.Ir;have C:q*u2≤q*v2:=fy _ m;refine⟨aa,aa,⟨fun g=>?_,fun g=>?_⟩,aa,aa,aa,?_,.inr ⟨p,m,?_,f,aa,aa,n,aa,fun g=>?_,fun g=>?_⟩⟩
 ·have:=h.hd.2 (by simpa using g);omega
 ·have:=h.hd.1 (by simpa using g);omega
 ·rcases h.ph with⟨a,b,c,d,e⟩|⟨a,b,_⟩
  ·subst a b c d e;omega
  ·omega
 ·rcases h.ph with⟨a,b,c,d,e⟩|⟨a,b,_⟩
  ·refine .inl ⟨a,?_⟩;cases ji with
   |false=>rfl
   |true=>
    have:=h.hd.1 rfl;subst a b c d e;omega
  ·exact .inr ⟨a,b⟩
 ·have:=h.hd.2 (by simpa using g);omega
 ·have:=h.hd.1 (by simpa using g);omega
structure tC (a b bu u1 v0 v1:Nat) (ji:Bool) (a' b':Nat):Prop where
 GS:ji=true→bu*a=v0*b+a'∧v1*b=u1*a+b'
 ev:ji=false→v0*b=bu*a+a'∧u1*a=v1*b+b'
 le:b'≤a'
 ba:a=v1*a'+v0*b'
 bb:b=u1*a'+bu*b'
variable{u:Nat}{L:Nat}
theorem oc.pair(i:oc e_ iS bu u1 u2 v0 v1 v2 f s ji)(x:v0≠0){X a:Nat}(k:a=X*e_+h)(z:h<X)(l:L=X*iS+u)(A:u<X):∃b c,tC a L bu u1 v0 v1 ji b c:=by
 rcases i.ph with⟨_,y,_⟩|⟨y,B,j,p,m,n,C,D,E,F⟩
 ·exact absurd y x
 rcases j with⟨j,_⟩|⟨_,j⟩
 ·exact absurd j x
 have K:v0*u≤v0*X:=fy _ (g8 A);have M:bu*h≤bu*X:=fy _ (g8 z);have N:v1*u≤v1*X:=fy _ (g8 A);have O:u1*h≤u1*X:=fy _ (g8 z);have P:bu*X≤v0*X:=dn _ j;have Q:u1*X≤v1*X:=dn _ B;have R:f*X+v0*X+v1*X≤p*X:=by
  rw[←cF,←cF];exact dn _ D
 have S:v1*X≤f*X:=dn _ C;cases ji with
 |true=>
  have d:=E rfl;have o:bu*e_=v0*iS+p:=by
   have:bu*v1*p=u1*v0*p+p:=by rw[d,cF,ga]
   rw[m,n,bD,bD,←bT,←bT,←bT,←bT,bK v0 u1,bK v0 bu];omega
  have q:v1*iS=u1*e_+f:=by
   have:bu*v1*f=u1*v0*f+f:=by rw[d,cF,ga]
   rw[m,n,bD,bD,←bT,←bT,←bT,←bT,bK v1 u1,bK v1 bu];omega
  have bA:bu*a=X*(v0*iS)+p*X+bu*h:=by
   rw[k,bD,mo,o,bD,bK X p]
  have G:v0*L=X*(v0*iS)+v0*u:=by
   rw[l,bD,mo]
  have H:v1*L=X*(u1*e_)+f*X+v1*u:=by
   rw[l,bD,mo,q,bD,bK X f]
  have I:u1*a=X*(u1*e_)+u1*h:=by
   rw[k,bD,mo]
  refine⟨p*X+bu*h-v0*u,f*X+v1*u-u1*h,⟨fun _=>⟨aa,aa⟩,fun i=>(by cases i),aa,?_,?_⟩⟩
  ·have e:bu*a=v0*L+(p*X+bu*h-v0*u):=aa;have g:v1*L=u1*a+(f*X+v1*u-u1*h):=aa;generalize p*X+bu*h-v0*u=b at*
   generalize f*X+v1*u-u1*h=c at*
   have r:v1*(bu*a)=v1*(v0*L)+v1*b:=by rw[e,bD]
   have t:v0*(v1*L)=v0*(u1*a)+v0*c:=by rw[g,bD]
   have v:v1*(bu*a)=u1*v0*a+a:=by rw[←bT,bK v1,d,cF,ga]
   have J:v0*(u1*a)=u1*v0*a:=by rw[←bT,bK v0]
   have w:v1*(v0*L)=v0*(v1*L):=mo _ _ _;omega
  ·have e:bu*a=v0*L+(p*X+bu*h-v0*u):=aa;have g:v1*L=u1*a+(f*X+v1*u-u1*h):=aa;generalize p*X+bu*h-v0*u=b at*
   generalize f*X+v1*u-u1*h=c at*
   have r:u1*(bu*a)=u1*(v0*L)+u1*b:=by rw[e,bD]
   have t:bu*(v1*L)=bu*(u1*a)+bu*c:=by rw[g,bD]
   have v:bu*(v1*L)=u1*(v0*L)+L:=by rw[←bT,d,cF,ga,bT]
   have w:u1*(bu*a)=bu*(u1*a):=mo _ _ _;omega
 |false=>
  have d:=F rfl;have o:v0*iS=bu*e_+p:=by
   have:u1*v0*p=bu*v1*p+p:=by rw[d,cF,ga]
   rw[m,n,bD,bD,←bT,←bT,←bT,←bT,bK v0 u1,bK v0 bu];omega
  have q:u1*e_=v1*iS+f:=by
   have:u1*v0*f=bu*v1*f+f:=by rw[d,cF,ga]
   rw[m,n,bD,bD,←bT,←bT,←bT,←bT,bK v1 u1,bK v1 bu];omega
  have bA:v0*L=X*(bu*e_)+p*X+v0*u:=by
   rw[l,bD,mo,o,bD,bK X p]
  have G:bu*a=X*(bu*e_)+bu*h:=by
   rw[k,bD,mo]
  have H:u1*a=X*(v1*iS)+f*X+u1*h:=by
   rw[k,bD,mo,q,bD,bK X f]
  have I:v1*L=X*(v1*iS)+v1*u:=by
   rw[l,bD,mo]
  refine⟨p*X+v0*u-bu*h,f*X+u1*h-v1*u,⟨fun i=>(by cases i),fun _=>⟨aa,aa⟩,aa,?_,?_⟩⟩
  ·have e:v0*L=bu*a+(p*X+v0*u-bu*h):=aa;have g:u1*a=v1*L+(f*X+u1*h-v1*u):=aa;generalize p*X+v0*u-bu*h=b at*
   generalize f*X+u1*h-v1*u=c at*
   have r:v1*(v0*L)=v1*(bu*a)+v1*b:=by rw[e,bD]
   have t:v0*(u1*a)=v0*(v1*L)+v0*c:=by rw[g,bD]
   have v:v0*(u1*a)=bu*v1*a+a:=by rw[←bT,bK v0,d,cF,ga]
   have J:v1*(bu*a)=bu*v1*a:=by rw[←bT,bK v1]
   have w:v1*(v0*L)=v0*(v1*L):=mo _ _ _;omega
  ·have e:v0*L=bu*a+(p*X+v0*u-bu*h):=aa;have g:u1*a=v1*L+(f*X+u1*h-v1*u):=aa;generalize p*X+v0*u-bu*h=b at*
   generalize f*X+u1*h-v1*u=c at*
   have r:u1*(v0*L)=u1*(bu*a)+u1*b:=by rw[e,bD]
   have t:bu*(u1*a)=bu*(v1*L)+bu*c:=by rw[g,bD]
   have v:u1*(v0*L)=bu*(v1*L)+L:=by rw[←bT,d,cF,ga,bT]
   have w:u1*(bu*a)=bu*(u1*a):=mo _ _ _;omega
end
variable{u:Nat}{L:Nat}{p:Bool}
theorem tC.gcd{a v0 v1 f g:Nat}(b:tC a h u L v0 v1 p f g):cx f g=cx a h:=by
 refine Nat.dvd_antisymm (Nat.dvd_gcd ?_ ?_) (Nat.dvd_gcd ?_ ?_)
 ·rw[b.ba];exact Nat.dvd_add (tF (Nat.gcd_dvd_left _ _) (uV _ _)) (tF (Nat.gcd_dvd_right _ _) (uV _ _))
 ·rw[b.bb];exact Nat.dvd_add (tF (Nat.gcd_dvd_left _ _) (uV _ _)) (tF (Nat.gcd_dvd_right _ _) (uV _ _))
 ·have c:∀x,cx a h∣x*a:=fun x=>tF (Nat.gcd_dvd_left _ _) (uV _ _)
  have d:∀x,cx a h∣x*h:=fun x=>tF (Nat.gcd_dvd_right _ _) (uV _ _)
  cases p with
  |true=>have e:=(b.GS rfl).1;exact(Nat.dvd_add_right (d v0)).1 (e▸c u)
  |false=>have e:=(b.ev rfl).1;exact(Nat.dvd_add_right (c u)).1 (e▸d v0)
 ·have c:∀x,cx a h∣x*a:=fun x=>tF (Nat.gcd_dvd_left _ _) (uV _ _)
  have d:∀x,cx a h∣x*h:=fun x=>tF (Nat.gcd_dvd_right _ _) (uV _ _)
  cases p with
  |true=>have e:=(b.GS rfl).2;exact(Nat.dvd_add_right (c L)).1 (e▸d v1)
  |false=>have e:=(b.ev rfl).2;exact(Nat.dvd_add_right (d v1)).1 (e▸c L)
theorem tC.less{a v0 v1 b c:Nat}(d:tC a h u L v0 v1 p b c)(e:1≤v0)(f:1≤v1)(g:0<h):b+c<a+h:=by
 have:=d.ba;have i:b≤v1*b:=by rw[bK];exact rJ f
 have j:c≤v0*c:=by rw[bK];exact rJ e
 omega
theorem am1(y:h<18446744073709551616)(z:u<18446744073709551616):∃a b c d,h%4294967296*(u%4294967296)=a∧h/4294967296*(u%4294967296)=b∧h%4294967296*(u/4294967296)=c∧h/4294967296*(u/4294967296)=d∧
 a≤18446744065119617025∧b≤18446744065119617025∧c≤18446744065119617025∧d≤18446744065119617025∧h*u=d*18446744073709551616+(b+c)*4294967296+a:=by
 have p:h=h/4294967296*4294967296+h%4294967296:=aa;have q:u=u/4294967296*4294967296+u%4294967296:=aa;have l:h/4294967296≤4294967295:=aa;have m:u/4294967296≤4294967295:=aa;have n:h%4294967296≤4294967295:=aa;have o:u%4294967296≤4294967295:=aa;obtain⟨e,i⟩:∃t,t=h/4294967296:=⟨_,rfl⟩;obtain⟨f,k⟩:∃t,t=u/4294967296:=⟨_,rfl⟩;obtain⟨r,g⟩:∃t,t=h%4294967296:=⟨_,rfl⟩;obtain⟨s,j⟩:∃t,t=u%4294967296:=⟨_,rfl⟩;rw[←i,←g]at p;rw[←k,←j]at q;rw[←i]at l;rw[←k]at m;rw[←g]at n;rw[←j]at o;rw[←i,←k,←g,←j];refine⟨_,_,_,_,rfl,rfl,rfl,rfl,j_ n o,j_ l o,j_ n m,j_ l m,?_⟩;rw[p,q,cF,bD,bD];have v:e*4294967296*(f*4294967296)=e*f*18446744073709551616:=by
  rw[Nat.mul_mul_mul_comm]
 have w:e*4294967296*s=e*s*4294967296:=tJ _ _ _;have x:r*(f*4294967296)=r*f*4294967296:=(bT _ _ _).symm;omega
structure lH (u d v1 v0 q r:Nat):Prop where
 top:u=q*v1+r
 ge:(u*4294967296+d)/(v1*4294967296+v0)≤q
theorem lH.start(c:h<4294967296)(b:0<u):lH a h u L (a/u) (a%u):=by
 refine⟨by rw[bK];exact(jm a u).symm,?_⟩;have d:0<u*4294967296+L:=aa;refine B2 (top:=a) (u2:=h) (v1:=u) (v2:=L) (W:=1) (nG:=0) (mb:=0) (V:=u*4294967296+L) (U:=a*4294967296+h) aa aa aa c b ?_;exact wM _ _
theorem lH.down{q r:Nat}(b:lH a h u L q r)(g:h<4294967296)(d:0<u)(c:r*4294967296+h<q*L):lH a h u L (q-1) (r+u):=by
 have f:=B3 (q:=(a*4294967296+h)/(u*4294967296+L)) (top:=a) (u2:=h) (v1:=u) (v2:=L) (h:=q) (r:=r) (W:=1) (nG:=0) (mb:=0) (V:=u*4294967296+L) (U:=a*4294967296+h) aa aa aa (wM _ _) b.top c;have e:q*u=(q-1)*u+u:=by
  cases q with
  |zero=>omega
  |succ q=>rw[qb,cF,ga]
 exact⟨by have:=b.top;omega,aa⟩
theorem lH.done{q r:Nat}(b:lH a h u L q r)(c:0<u)(d:q*L≤r*4294967296+h):q=(a*4294967296+h)/(u*4294967296+L):=by
 refine Nat.le_antisymm ?_ b.ge;rw[tG aa,bD,←bT];have:=b.top;have e:a*4294967296=q*u*4294967296+r*4294967296:=by rw[this,cF]
 omega
end Go.aF
namespace Go.Proofs.YtddhncjmaahodaaGreatDoor
open Go.au Go.aF
theorem xq(n:Nat):aq n=W.aN n:=by
 induction n using jD with
 |ind n a=>
  by_cases h:n=0
  ·rw[h,jY,W.iV]
  ·rw[FC h,W.o_ h,a _ aa]
theorem gp(n:Nat):W.aA (aq n):=by rw[xq];exact W.gP n
theorem Bp(n:Nat):W.aO (aq n):=by rw[xq];exact W.pS n
theorem gi(n:Nat):W.val (aq n)=n:=by rw[xq];exact W.fM n
variable{d:List Nat}
theorem agf(h:W.aA d)(t:W.aO d):aq (W.val d)=d:=by rw[xq];exact W.Bj h t
theorem l_(h:W.aA d):W.trim d=aq (W.val d):=by rw[xq];exact W.pT h
variable{a:Nat}{h:Nat}
theorem vj(b:a<18446744073709551616^h):(aq a).length≤h:=by rw[xq];exact W.vh b
theorem nS(n:Nat):n<18446744073709551616^(aq n).length:=by
 have:=W.gS (gp n);rwa[gi]at this
theorem lP{m n:Nat}(h:m≤n):(aq m).length≤(aq n).length:=vj (eY h (nS n))
variable{q:Int}
theorem nQ{a:Int}(h:a<q):fe a q= -1:=by rw[fe,ak h]
theorem A3{a:Int}(h:a=q):fe a q=0:=by rw[fe,aj aa,aj aa]
theorem nP{a:Int}(h:q<a):fe a q=1:=by rw[fe,aj aa,ak h]
theorem ve(m n:Nat)(z:(aq m).length<1000000)(A:(aq n).length<1000000):aW 235 [bl (aq m),bl (aq n)] (ah (fe m n)):=by
 refine cO (.cons (dr _) (.cons (dr _) .nil)) (.int _ _) (aT aky ?_);have p:=gp m;have q:=gp n;have u:=Bp m;have v:=Bp n;have w:=gi m;have x:=gi n;generalize aq m=a at*
 generalize aq n=b at*
 subst w x;rcases Nat.lt_trichotomy a.length b.length with h|h|h
 ·have o:=W.sX p v h;simp(disch:=omega)only[go_sem,d235,EJ,df];refine use (A2 _ _) ?_;simp only[go_sem];rw[nQ aa,nQ aa]
 ·simp(disch:=omega)only[go_sem,d235,EJ,ZP,dt,aH];refine bH (fun k F r=>∃j:Nat,rd 0 F=bl a∧rd 1 F=bl b∧rd 5 F=ah ((j:Int)-1)∧k=j∧j≤a.length∧a.drop j=b.drop j) a.length ⟨a.length,?_,?_,?_,rfl,aE _,?_⟩ ?_
  iterate 3 simp only[go_sem]
  ·rw[jB (aE _),jB aa]
  rintro j F r ⟨_,c,d,e,rfl,y,f⟩;rw[ZN];cases j with
  |zero=>
   have s:a=b:=by simpa using f
   simp(disch:=omega)only[go_sem,ZO,e,dt];rw[A3 (by rw[s])]
  |succ i=>
   have hi:(((i+1:Nat):Int)-1).toNat=i:=aa;have g:i<a.length:=aa;have l:i<b.length:=aa;rcases Nat.lt_trichotomy (a.getD i 0) (b.getD i 0)with t|heq|hgt
   ·have o:=W.zC p g l f t;simp(disch:=omega)only[go_sem,EI,c,d,e,df,gN,hi,dw];refine use (KI _ _) ?_;simp only[go_sem];rw[nQ aa,nQ aa]
   ·simp(disch:=omega)only[go_sem,EI,ZM,c,d,e,dt,df,gN,hi,dw,aH];refine⟨i,aa,i,?_,?_,?_,rfl,aa,?_⟩
    iterate 2 simp only[go_sem,c,d]
    ·simp only[go_sem];congr 1;omega
    ·rw[lI g,lI l,f];congr 1;simpa [bX,g,l]using heq
   ·have o:=W.zC q l g f.symm hgt;simp(disch:=omega)only[go_sem,EI,c,d,e,df,gN,hi,dw];refine use (KI _ _) ?_;simp only[go_sem];rw[nP aa,nP aa]
 ·have o:=W.sX q u h;simp(disch:=omega)only[go_sem,d235,EJ,df];refine use (A2 _ _) ?_;simp only[go_sem];rw[nP aa,nP aa]
variable{u:Nat}{L:Nat}{n:IntKind}
theorem CO{c:IntKind}{b:Int}(e:0≤q∧q≤b∧b≤u∧u≤L∧q<L):slice3 (j7 a) true true false [.slice h 0 u (.known L),.int n q,.int c b]=some (.val (.slice h (q.toNat*a) (b.toNat-q.toNat) (.known (L-q.toNat)))):=by
 show qO h 0 u L a (some (.int n q)) (some (.int c b))=_;unfold qO;rw[sA (l:=q.toNat) (h:=b.toNat) (mw n e.1) (mw c aa) aa aa];show some (aY.val (.slice h (Bool.casesOn (motive:=fun _=>Nat) (bn L q.toNat) (gv 0 (dQ q.toNat a)) 0) (ja b.toNat q.toNat) (.known (ja L q.toNat))))=_;rw[show bn L q.toNat=false from mY.2 fun d=>by have:=(beq_eq _ _).1 d;omega];have:gv 0 (dQ q.toNat a)=q.toNat*a:=by show 0+q.toNat*a=_;omega
 show some (aY.val (.slice h (gv 0 (dQ q.toNat a)) (ja b.toNat q.toNat) (.known (ja L q.toNat))))=_;rw[this];rfl
theorem C5:∀l:List Nat,W.trim l=l.take (W.trim l).length
 |[]=>rfl
 |d::l=>by
  have a:=C5 l;unfold W.trim;split
  ·rfl
  ·simp only[cL,List.take_succ_cons];rw[←a]
theorem aq9(l g:List Nat)(b c:Nat)(p:l.length≤c)(hl:l.length<4294967296)(H:af)(h:H.get b=.cells (aL (l++g)) 0):
 c7 252 [.slice b 0 l.length (.known c)] H fun v d=>v=.slice b 0 (W.trim l).length (.known c)∧d=H:=by
 refine aT Gi ?_;simp only[go_sem,d252,ES,ER];refine bH (fun k F d=>∃m:Nat,rd 0 F=.slice b 0 l.length (.known c)∧rd 3 F=ah (m:Int)∧W.trim (l.take m)=W.trim l∧k=m∧m≤l.length∧d=H) l.length ⟨l.length,?_,?_,by rw[b_ (aE _)],rfl,aE _,rfl⟩ ?_
 iterate 2 simp only[go_sem]
 rintro m F d ⟨_,e,f,a,rfl,r,rfl⟩;rw[EP];cases m with
 |zero=>
  simp(disch:=omega)only[go_sem,xj,e,f,df,v8];refine⟨?_,trivial⟩;rw[←a];rfl
 |succ i=>
  have hi:(((i+1:Nat):Int)-1).toNat=i:=aa;have q:i<(l++g).length:=by simp;omega
  have n:(l++g).getD i 0=l.getD i 0:=by
   simp only[bX];rw[lJ aa]
  have o:l.take (i+1)=l.take i++[l.getD i 0]:=by
   rw[kQ aa,bX,cn aa];rfl
  rw[o]at a;by_cases j:l.getD i 0=0
  ·simp(disch:=omega)only[go_sem,EO,e,f,dt,aH,b3,hi,h,dw,n];refine⟨i,aa,i,?_,?_,?_,rfl,aa,rfl⟩
   ·simp only[go_sem,e]
   ·simp only[go_sem];congr 1;omega
   ·rw[j,W.yy]at a;exact a
  ·simp(disch:=omega)only[go_sem,xj,e,f,dt,df,aH,b3,hi,h,dw,n,v8];rw[W.yw _ _ j]at a;rw[←a];simp;omega
theorem Ce(x y:Nat)(j:x<18446744073709551616)(k:y<18446744073709551616):aW 356 [ay (x:Int),ay (y:Int)] (.az [ay ((x*y/18446744073709551616:Nat):Int),ay ((x*y%18446744073709551616:Nat):Int)]):=by
 refine cO (.cons (.int _ _) (.cons (.int _ _) .nil)) (.az (.cons (.int _ _) (.cons (.int _ _) .nil))) (aT ala ?_);obtain⟨a,b,c,d,f,g,h,i,A,B,C,bp,e⟩:=am1 j k;have q:aC .u64 (((x%4294967296:Nat):Int)*((y%4294967296:Nat):Int))=(a:Int):=by rw[←fU,f];exact bW _ aa
 have r:aC .u64 (((x/4294967296:Nat):Int)*((y%4294967296:Nat):Int))=(b:Int):=by rw[←fU,g];exact bW _ aa
 have dg:aC .u64 (((x%4294967296:Nat):Int)*((y/4294967296:Nat):Int))=(c:Int):=by rw[←fU,h];exact bW _ aa
 have s:aC .u64 (((x/4294967296:Nat):Int)*((y/4294967296:Nat):Int))=(d:Int):=by rw[←fU,i];exact bW _ aa
 obtain⟨t,w⟩:∃t,t=b+a/4294967296:=⟨_,rfl⟩;have l:aC .u64 ((b:Int)+((a/4294967296:Nat):Int))=(t:Int):=by rw[bW _ aa];omega
 obtain⟨u,z⟩:∃u,u=t%4294967296+c:=⟨_,rfl⟩;have m:aC .u64 (((t%4294967296:Nat):Int)+(c:Int))=(u:Int):=by rw[bW _ aa];omega
 have n:aC .u64 ((d:Int)+((t/4294967296:Nat):Int))=((d+t/4294967296:Nat):Int):=by rw[bW _ aa];omega
 have hh:x*y/18446744073709551616=d+t/4294967296+u/4294967296:=by rw[e];omega
 have v:x*y<340282366920938463463374607431768211456:=by rw[e];omega
 have o:aC .u64 (((d+t/4294967296:Nat):Int)+((u/4294967296:Nat):Int))=((x*y/18446744073709551616:Nat):Int):=by rw[hh,bW _ aa];omega
 have p:aC .u64 ((x:Int)*(y:Int))=((x*y%18446744073709551616:Nat):Int):=by rw[hJ,←fU,Int.natCast_emod];rfl
 simp(disch:=omega)only[go_sem,d356,ac4,adb,ada,ac_,ac9,ac8,ac7,ac6,ac5,ac3,ac2,AR,qN,q,r,dg,s,l,m,n,o,p]
structure eH (H H1:af) (b:Nat) (cs:List V):Prop where
 next:H1.next=H.next
 get:∀y,H1.get y=if y=b then .cells cs 0 else H.get y
variable{c:af}{H:af}{b:List V}
theorem eH.at(h:eH c H a b):H.get a=.cells b 0:=by rw[h.get,ak rfl]
theorem eH.refl(h:c.get a=.cells b 0):eH c c a b:=⟨rfl,fun y=>by
 split
 ·rename_i e;rw[e,h]
 ·rfl⟩
theorem eH.set{cs:List V}(h:eH c H a cs)(b:List V):eH c (H.set a (.cells b 0)) a b:=⟨h.next,fun y=>by
 rw[af.aK];by_cases e:y=a
 ·rw[ak e.symm,ak e]
 ·rw[aj (fun h=>e h.symm),aj e,h.get,aj e]⟩
theorem eH.trans{a:af}{b:Nat}{g d:List V}(h:eH c H b g)(f:eH H a b d):eH c a b d:=⟨f.next.trans h.next,fun y=>by
 rw[f.get];by_cases e:y=b
 ·rw[ak e,ak e]
 ·rw[aj e,aj e,h.get,aj e]⟩
theorem kj(l:List Nat)(i v:Nat):(aL l).set i (ay (v:Int))=aL (l.set i v):=by simp[aL,List.map_set]
theorem yF(l m:List Nat):aL (l++m)=aL l++aL m:=by simp[aL]
theorem kM{l:List Nat}{i:Nat}(h:i<l.length):W.val (l.take (i+1))=W.val (l.take i)+18446744073709551616^i*l.getD i 0:=by
 rw[kQ h,W.fF,g6 (g8 h),bX,cn h];simp[W.val]
theorem CL(ds a:List Nat)(e v:Nat):(ds++e::a).set ds.length v=(ds++[v])++a:=aB
theorem ry{l:List Nat}{i:Nat}(h:i<l.length):l.drop i=l.getD i 0::l.drop (i+1):=by
 rw[lI h,bX,cn h];rfl
theorem zn(ds a:List Nat)(e:Nat):(ds++e::a).getD ds.length 0=e:=aB
theorem Eg{P d x y z:Nat}{V X:Nat}(c:V+P*a=X+h)(b:x+y+a=d+18446744073709551616*z):V+P*d+P*18446744073709551616*z=X+P*x+(h+P*y):=by
 have e:=congrArg (P* ·) b;simp only[bD,←bT]at e;omega
theorem S9(a d:List Nat)(n:Nat)(B:W.aA a)(M:W.aA d)(hl:d.length≤a.length)(R:a.length<1000000)(K:a.length=n)(b:Nat)(c:Cap)(H:af)(E:H.get b=.cells (aL a) 0):
 c7 302 [.slice b 0 n c,bl d] H fun _ o=>∃q k,q.length=a.length∧W.aA q∧W.val q+18446744073709551616^a.length*k=W.val a+W.val d∧eH H o b (aL q):=by
 subst K;refine aT akZ ?_;simp(disch:=omega)only[go_sem,d302,abu]
 refine bH (fun k F o=>∃(ds:List Nat) (e:Nat),k=d.length-ds.length∧ds.length≤d.length∧rd 0 F=.slice b 0 a.length c∧rd 1 F=bl d∧rd 4 F=ay (e:Int)∧rd 8 F=bl d∧rd 9 F=ah (d.length:Int)∧rd 10 F=ah (ds.length:Int)∧e≤1∧W.aA ds∧
  W.val ds+18446744073709551616^ds.length*e=W.val (a.take ds.length)+W.val (d.take ds.length)∧eH H o b (aL (ds++a.drop ds.length))) d.length ⟨[],0,rfl,bQ _,?_,?_,?_,?_,?_,?_,aa,W.aA.nil,rfl,eH.refl E⟩ ?_
 iterate 2 simp only[go_sem]
 ·simp only[go_sem];rfl
 iterate 2 simp only[go_sem]
 ·simp only[go_sem];rfl
 rintro k F o ⟨ds,e,rfl,w,g,r,h,u,p,t,v,m,j,f⟩;rw[abn];by_cases hi:ds.length<d.length
 ·have L:=B.getD ds.length;have Q:=M.getD ds.length;have x:=ry (l:=a) (i:=ds.length) aa;rw[x]at f;have y:=f.at;have I:ds.length<(aL (ds++a.getD ds.length 0::a.drop (ds.length+1))).length:=by rw[eM];simp
  have J:ds.length<(ds++a.getD ds.length 0::a.drop (ds.length+1)).length:=aB;have z:=zn ds (a.drop (ds.length+1)) (a.getD ds.length 0);simp(disch:=omega)only[go_sem,Mb,abm,abl,g,h,u,p,t,dt,gN,b3,dw,y,z,u6,e9,kj,CL,aH];obtain⟨s,A⟩:∃s,s=a.getD ds.length 0+d.getD ds.length 0+e:=⟨_,rfl⟩;rw[←A];refine⟨d.length-(ds.length+1),aa,ds++[s%18446744073709551616],s/18446744073709551616,aB,by simp;omega,?_,?_,?_,?_,?_,?_,aa,m.app (.mk aa W.aA.nil),?_,?_⟩
  iterate 5 simp only[go_sem,g,r,u,p]
  ·simp only[go_sem,aS,gH];rfl
  ·rw[W.fF];simp only[aS,gH,cQ,W.val,fc,cE];rw[kM aa,kM aa];exact Eg j aa
  ·have:=f.set (aL ((ds++[s%18446744073709551616])++a.drop (ds.length+1)));simpa using this
 ·have i:ds.length=d.length:=aa;simp(disch:=omega)only[go_sem,Mb,abt,abr,r,p,t,df]
  refine bH (fun k F o=>∃(ds:List Nat) (e:Nat),k=a.length-ds.length∧d.length≤ds.length∧ds.length≤a.length∧rd 0 F=.slice b 0 a.length c∧rd 4 F=ay (e:Int)∧rd 7 F=ah (ds.length:Int)∧e≤1∧W.aA ds∧
   W.val ds+18446744073709551616^ds.length*e=W.val (a.take ds.length)+W.val d∧eH H o b (aL (ds++a.drop ds.length))) (a.length-ds.length) ⟨ds,e,rfl,aa,aa,?_,?_,?_,v,m,by rw[j,i,b_ (l:=d) (aE _)],f⟩ ?_
  iterate 3 simp only[go_sem,g,h,i]
  clear j f m v i w g r h u p t hi;rintro k N O ⟨ds,e,rfl,P,w,g,h,C,v,m,j,f⟩;rw[abq];by_cases G:e=0
  ·subst G;simp(disch:=omega)only[go_sem,h,jT,decide_true];refine⟨ds++a.drop ds.length,0,by simp;omega,m.app (B.drop _),?_,f⟩;rw[W.fF,W.pV a ds.length w];omega
  ·by_cases hi:ds.length<a.length
   ·have L:=B.getD ds.length;have x:=ry (l:=a) (i:=ds.length) aa;rw[x]at f;have y:=f.at;have I:ds.length<(aL (ds++a.getD ds.length 0::a.drop (ds.length+1))).length:=by rw[eM];simp
    have J:ds.length<(ds++a.getD ds.length 0::a.drop (ds.length+1)).length:=aB;have z:=zn ds (a.drop (ds.length+1)) (a.getD ds.length 0);have D:=u6 (a:=a.getD ds.length 0) (b:=0) (c:=e) aa;simp only[jT]at D;simp(disch:=omega)only[go_sem,abp,abo,g,h,C,dt,df,b3,dw,y,z,D,e9,kj,CL,aH];obtain⟨s,A⟩:∃s,s=a.getD ds.length 0+e:=⟨_,rfl⟩;rw[←A];refine⟨a.length-(ds.length+1),aa,ds++[s%18446744073709551616],s/18446744073709551616,aB,by simp;omega,by simp;omega,?_,?_,?_,aa,m.app (.mk aa W.aA.nil),?_,?_⟩
    iterate 2 simp only[go_sem,g]
    ·simp only[go_sem,aS,gH];rfl
    ·rw[W.fF];simp only[aS,gH,cQ,W.val,fc,cE];rw[kM aa];have:=Eg (x:=a.getD ds.length 0) (y:=0) (z:=s/18446744073709551616) (d:=s%18446744073709551616) j aa;rw[fc,cE]at this;exact this
    ·have:=f.set (aL ((ds++[s%18446744073709551616])++a.drop (ds.length+1)));simpa using this
   ·have i:ds.length=a.length:=aa;simp(disch:=omega)only[go_sem,g,h,C,df];rw[i,jB (aE _),fG]at f;rw[i,b_ (aE _)]at j;exact⟨ds,e,i,m,j,f⟩
theorem Gc(q:Rat):aW 277 [c5 q] (.bool (decide (q.num=0))):=by
 refine cO (.cons (kW _) .nil) (.bool _) (aT akQ ?_);simp only[go_sem,d277,aaZ,c5,b9];refine use (BX q.num) ?_;simp only[go_sem]
theorem Qw(a b:List Nat)(hl:a.length=b.length)(K:a.length≤1000000000)(H:a.sum≤1000000000000)(I:b.sum≤1000000000000):aW 276 [b6 a,b6 b] (ah (ord a b)):=by
 refine cO (.cons (oy _) (.cons (oy _) .nil)) (.int _ _) (aT akP ?_);simp only[go_sem,d276,aaT,aaS];refine bH (fun k c q=>∃i:Nat,rd 0 c=b6 a∧rd 1 c=b6 b∧rd 10 c=b6 a∧rd 11 c=ah (a.length:Int)∧rd 5 c=ah (((a.take i).sum:Nat):Int)∧rd 6 c=ah (((b.take i).sum:Nat):Int)∧rd 12 c=ah (i:Int)∧k=a.length-i∧i≤a.length) a.length ⟨0,?_,?_,?_,?_,?_,?_,?_,rfl,bQ _⟩ ?_
 iterate 4 simp only[go_sem]
 ·simp only[go_sem,q6];rfl
 ·simp only[go_sem,q6];rfl
 ·simp only[go_sem];rfl
 rintro k c q ⟨i,m,n,t,e,f,g,o,rfl,hi⟩;rw[aaU];by_cases A:i<a.length
 ·have F:=Al a (i+1);have G:=Al b (i+1);have d:=Am A;have z:=Am (l:=b) (i:=i) aa;simp(disch:=omega)only[go_sem,EU,aaR,aaQ,n,t,e,f,g,o,dt,oD,bJ,oF,aH];refine⟨a.length-(i+1),aa,i+1,?_,?_,?_,?_,?_,?_,?_,rfl,aa⟩
  iterate 4 simp only[go_sem,m,n,t,e]
  ·simp only[go_sem];rw[d];rfl
  ·simp only[go_sem];rw[z];rfl
  ·simp only[go_sem];rfl
 ·have B:i=a.length:=aa;subst B;rw[b_ (aE _)]at f;rw[b_ aa]at g;by_cases v:a.sum=b.sum
  ·simp(disch:=omega)only[go_sem,EU,L4,aaY,m,f,g,e,o,dt,df,aH];have p:ord a b=rl a.reverse b.reverse:=ak v;refine bH (fun k c q=>rd 0 c=b6 a∧rd 1 c=b6 b∧rd 9 c=ah ((k:Int)-1)∧k≤a.length∧rl (a.take k).reverse (b.take k).reverse=ord a b) a.length ⟨?_,?_,?_,aE _,?_⟩ ?_
   iterate 3 simp only[go_sem,m,n]
   ·rw[b_ (aE _),b_ aa,p]
   rintro k y E ⟨l,d,r,J,h⟩;rw[aaW];cases k with
   |zero=>
    simp(disch:=omega)only[go_sem,aaX,r,dt];rw[←h];rfl
   |succ j=>
    have s:rd 9 y=ah (j:Int):=by rw[r];congr 1;omega
    have C:j<a.length:=aa;have D:j<b.length:=aa;rw[Cz C,Cz D]at h;by_cases w:a.getD j 0=b.getD j 0
    ·simp(disch:=omega)only[go_sem,L3,aaV,l,d,s,dt,df,oD,bJ,oF,aH];refine⟨j,mm j,?_,?_,?_,aa,?_⟩
     iterate 3 simp only[go_sem,l,d]
     ·rw[←h];simp only[rl];rw[ak w]
    ·simp(disch:=omega)only[go_sem,L3,l,d,s,df,oD,bJ,oF];refine use (A2 _ _) ?_;simp only[go_sem];rw[←h];simp only[rl];rw[aj w];unfold fe;by_cases x:b.getD j 0<a.getD j 0
     ·rw[ak x,ak aa]
     ·rw[aj x,aj aa,ak aa]
  ·have p:ord a b=if a.sum<b.sum then-1 else 1:=aj v
   simp(disch:=omega)only[go_sem,EU,L4,f,g,e,o,df];refine use (A2 _ _) ?_;simp only[go_sem];rw[p];unfold fe;by_cases u:a.sum<b.sum
   ·rw[ak u,ak aa]
   ·rw[aj u,aj aa,ak aa]
theorem afL(a:List Nat)(hl:a.length≤6)(o:a.sum≤24):aW 290 [b6 a] (ah (a.sum:Int)):=by
 refine cO (.cons (oy _) .nil) (.int _ _) (aT akS ?_);have n:¬(6:Int)<((a.length:Nat):Int):=aa;simp(disch:=assumption)only[go_sem,d290,aa7,aa6,aa5,df];refine bH (fun k b g=>∃i:Nat,rd 9 b=b6 a∧rd 10 b=ah (a.length:Int)∧rd 3 b=ah (((a.take i).sum:Nat):Int)∧rd 11 b=ah (i:Int)∧k=a.length-i∧i≤a.length) a.length ⟨0,?_,?_,?_,?_,rfl,bQ _⟩ ?_
 iterate 2 simp only[go_sem]
 ·simp only[go_sem,q6];rfl
 ·simp only[go_sem];rfl
 rintro k b g ⟨i,f,c,d,e,rfl,hi⟩;rw[aa3];by_cases j:i<a.length
 ·have m:=Al a (i+1);have h:=Am j;simp(disch:=omega)only[go_sem,L5,aa2,aa1,f,c,d,e,dt,df,oD,bJ,oF,aH];refine⟨a.length-(i+1),aa,i+1,?_,?_,?_,?_,rfl,aa⟩
  iterate 2 simp only[go_sem,f,c]
  ·simp only[go_sem];rw[h];rfl
  ·simp only[go_sem];rfl
 ·have l:i=a.length:=aa;rw[l,b_ (aE _)]at d;simp(disch:=omega)only[go_sem,L5,aa4,c,e,d,df]
theorem GF(a:List Nat)(hl:a.length≤6)(b:a.sum≤24):aW 224 [b6 a] bO:=by
 refine cO (.cons (oy _) .nil) (.bool _) (aT akq ?_);simp only[go_sem,d224,Zq];refine use (afL a hl b) ?_;simp(disch:=omega)only[go_sem,df]
def dc(e:List Nat):List V:=cv e++aX (6-e.length) (ah 0)
def bI(t:ax):List V:=dc t.2++b9 t.1
def nT(t:ax):V:=.agg (bI t)
theorem zU{e:List Nat}(h:e.length≤6):(dc e).length=6:=by simp[dc,j0];omega
theorem lQ{t:ax}(h:t.2.length≤6):(bI t).length=10:=by
 unfold bI;rw[aS,zU h];rfl
theorem agU(e:List Nat):bY (dc e):=lu (FN e) (bY.iff.2 fun v h=>by rw[List.eq_of_mem_replicate h];exact .int _ _)
theorem NU(t:ax):bY (bI t):=lu (agU _) (FR _)
theorem FM(t:ax):bz (nT t):=.agg (NU t)
theorem rj:cG b=true↔∀v∈b,v.one=true:=by
 induction b with
 |nil=>exact⟨fun _ _ h=>(by cases h),fun _=>rfl⟩
 |cons a b e=>
  show and a.one (cG b)=true↔_;rw[cu,e];constructor
  ·rintro⟨c,d⟩ v hv;rcases g7.1 hv with rfl|hv
   ·exact c
   ·exact d v hv
  ·exact fun h=>⟨h a aB,fun v hv=>h v (by simp[hv])⟩
theorem yX(e:List Nat):cG (cv e)=true:=rj.2 fun v h=>by
 simp only[cv,k_]at h;obtain⟨d,_,rfl⟩:=h;rfl
theorem sy(t:ax):cG (bI t)=true:=rj.2 fun v h=>by
 unfold bI dc at h;rcases gI.1 h with h|h
 ·rcases gI.1 h with h|h
  ·exact rj.1 (yX _) v h
  ·rw[List.eq_of_mem_replicate h];rfl
 ·exact rj.1 (show cG (b9 t.1)=true from rfl) v h
theorem vK{l:List V}(h:b.length=l.length):cC b l 0=some b:=by
 rw[lC,ak aa];simp[h]
theorem Gy{xs l:List V}(h:xs.length≤l.length):cC xs l 0=some (xs++l.drop xs.length):=by
 rw[lC,ak aa];simp
variable{m:Fr}{i:Option Nat}{e:Fr→af→Prop}
theorem agj{b:Nat}{cs:List V}(h:c.get b=.cells cs 0)(p:6≤cs.length)(j:d.length≤6)(l:e (put m i (ah (d.length:Int))) (c.set b (.cells (cv d++cs.drop d.length) 0))):
 gj i e m (ov 1 [.slice b 0 6 (.known 6),b6 d] c):=by
 have n:dU d.length 6=d.length:=kZ j;have g:ov 1 [.slice b 0 6 (.known 6),b6 d] c=some (ah (d.length:Int),c.set b (.cells (cv d++cs.drop d.length) 0)):=by
  show ao (some d.length) (fun a=>ao (dS c 1 (dU a 6) (b6 d)) fun o=>ao (c.e5 b 0 o) fun c=>some (V.int .i64 (.ofNat (dU a 6)),c))=_;show ao (dS c 1 (dU d.length 6) (b6 d)) _=_;rw[n];have k:dS c 1 d.length (b6 d)=some (cv d):=iC (by rw[j0];show d.length=d.length*1;omega);rw[k];show ao (c.e5 b 0 (cv d)) _=_;unfold af.e5;rw[h];show ao (aQ (cG (cv d)) (ao (cC (cv d) cs 0) fun f=>some (c.set b (.cells f 0)))) _=_;rw[yX,Gy (by rw[j0];omega),j0];rfl
 rw[g];exact l
theorem agI(e:List Nat)(q:∀x∈e,x≤1048576)(hl:e.length≤6)(F:Fr)(H:af)(R:X→Fr→af→Prop)(m:rd 32 F=b6 e)(n:rd 33 F=ah (e.length:Int))(o:rd 34 F=ah 0)
 (p:∀d,(∀t,t<9→rd t d=rd t F)→R (.exit 0) d H):bx (.loop (pc 305 3)) R F H:=by
 refine bH (fun k a f=>∃i:Nat,k=e.length-i∧i≤e.length∧(∀t,t<9→rd t a=rd t F)∧rd 32 a=b6 e∧rd 33 a=ah (e.length:Int)∧rd 34 a=ah (i:Int)∧f=H) e.length ⟨0,rfl,bQ _,fun _ _=>rfl,m,n,o,rfl⟩ ?_;rintro k a f ⟨i,rfl,hi,j,g,b,h,rfl⟩;rw[abH];by_cases l:i<e.length
 ·have r:e.getD i 0≤1048576:=by
   refine q _ ?_;rw[bX,cn l];exact wI l
  simp(disch:=omega)only[go_sem,Md,abF,abE,g,b,h,dt,df,oD,bJ,oF,aH];refine⟨e.length-(i+1),aa,i+1,rfl,aa,fun t c=>?_,?_,?_,?_,rfl⟩
  ·simp(disch:=omega)only[bV];exact j t c
  iterate 2 simp only[go_sem,g,b]
  ·simp only[go_sem];rfl
 ·simp(disch:=omega)only[go_sem,Md,b,h,df];refine p _ fun t c=>?_
  simp(disch:=omega)only[bV];exact j t c
theorem Pm(h:u∈d):u≤d.sum:=by
 induction d with
 |nil=>cases h
 |cons a d b=>
  rw[List.sum_cons];rcases g7.1 h with rfl|h
  ·omega
  ·have:=b h;omega
theorem oJ(n:Nat):rep [V.int .u64 0] n=aL (aX n 0):=by
 induction n with
 |zero=>rfl
 |succ n a=>
  show cW [V.int .u64 0] (rep [V.int .u64 0] n)=_;rw[iP,a];simp[aL,p7]
theorem qs{b:Cap}(f:c.get a=.cells (aL d) 0)(g:H.get a=.none)(i:d.length=h):bR c H (.slice a 0 h b) (bl d):=by
 subst i;cases d with
 |nil=>exact .eW a 0 b
 |cons e d=>
  refine .row (m:=(e::d).length) (cs:=aL (e::d)) ?_ (lf _) g (cD.refl _);rw[fJ f,c_,e4,ak (by rw[eM];exact aE _),b_ (by rw[eM];exact aE _)]
theorem qT(l:List Nat)(hl:l.length<4294967296):aW 252 [bl l] (bl (W.trim l)):=by
 refine cO (.cons (dr _) .nil) (dr _) (aT Gi ?_);simp only[go_sem,d252,ES,ER];refine bH (fun k F g=>∃m:Nat,rd 0 F=bl l∧rd 3 F=ah (m:Int)∧W.trim (l.take m)=W.trim l∧k=m∧m≤l.length) l.length ⟨l.length,?_,?_,by rw[b_ (aE _)],rfl,aE _⟩ ?_
 iterate 2 simp only[go_sem]
 rintro m F g ⟨_,a,c,b,rfl,h⟩;rw[EP];have e:slice3 (j7 1) false true false [bl l,ah (m:Int)]=some (.val (bl (l.take m))):=by
  rw[bl,CN (by rw[eM,dF]) aa];simp only[bl,aL,dD,dF,List.map_take,bJ];rw[(aa:min m l.length=m)]
 cases m with
 |zero=>
  simp(disch:=omega)only[go_sem,xj,a,c,df,e];rw[←b];rfl
 |succ i=>
  have hi:(((i+1:Nat):Int)-1).toNat=i:=aa;have f:l.take (i+1)=l.take i++[l.getD i 0]:=by
   rw[kQ aa,bX,cn aa];rfl
  by_cases d:l.getD i 0=0
  ·simp(disch:=omega)only[go_sem,EO,a,c,dt,aH,gN,hi,dw];refine⟨i,aa,i,?_,?_,?_,rfl,aa⟩
   ·simp only[go_sem,a]
   ·simp only[go_sem];congr 1;omega
   ·rw[f,d,W.yy]at b;exact b
  ·simp(disch:=omega)only[go_sem,xj,a,c,dt,df,aH,gN,hi,dw,e];rw[←b,f,W.yw _ _ d]
theorem Bv{b:Cap}{cs:List V}(n:c.get a=.cells cs 0)(r:d.length≤h)(t:h≤cs.length)(p:e (put m i (ah (d.length:Int))) (c.set a (.cells (aL d++cs.drop d.length) 0))):
 gj i e m (ov 1 [.slice a 0 h b,bl d] c):=by
 have q:dU d.length h=d.length:=kZ r;have l:cG (aL d)=true:=rj.2 fun v f=>by
  simp only[aL,k_]at f;obtain⟨i,_,rfl⟩:=f;rfl
 have k:ov 1 [.slice a 0 h b,bl d] c=some (ah (d.length:Int),c.set a (.cells (aL d++cs.drop d.length) 0)):=by
  show ao (some d.length) (fun g=>ao (dS c 1 (dU g h) (bl d)) fun s=>ao (c.e5 a 0 s) fun c=>some (V.int .i64 (.ofNat (dU g h)),c))=_;show ao (dS c 1 (dU d.length h) (bl d)) _=_;rw[q];have o:dS c 1 d.length (bl d)=some (aL d):=iC (by rw[eM];show d.length=d.length*1;omega);rw[o];show ao (c.e5 a 0 (aL d)) _=_;unfold af.e5;rw[n];show ao (aQ (cG (aL d)) (ao (cC (aL d) cs 0) fun j=>some (c.set a (.cells j 0)))) _=_;rw[l,Gy (by rw[eM];omega),eM];rfl
 rw[k];exact p
theorem Ta(m n:Nat)(t:(aq m).length<100000)(u:(aq n).length<100000):aW 239 [bl (aq m),bl (aq n)] (bl (aq (m+n))):=by
 refine fE (.cons (dr _) (.cons (dr _) .nil)) (aT akC ?_)
 have l:∀(a b:Nat) (F:Fr),(aq b).length≤(aq a).length→(aq a).length<100000→a+b=m+n→rd 0 F=bl (aq a)→rd 1 F=bl (aq b)→
  bx (pc 239 4) (gk [.tmp 4] fun x d=>∃v,bR d (af.zero d.next) x v∧bz v∧v=bl (aq (m+n))) F (af.zero 5):=by
  intro a b F hl E i f e;by_cases C:(aq b).length=0
  ·have o:b=0:=oa fun h=>by have:=(jd b).2 h;omega
   simp(disch:=omega)only[go_sem,LR,f,e,dt];exact iA (by rw[←i,o];rfl) (dr _)
  ·simp(disch:=omega)only[go_sem,LR,ZX,ZW,f,e,df,aH,ir,oJ];have q:(aL (aX ((aq a).length+1) 0)).drop (aq a).length=aL [0]:=by
    rw[aL,←List.map_drop,List.drop_replicate,Nat.add_sub_cancel_left];rfl
   refine Bv (cs:=aL (aX ((aq a).length+1) 0)) (by simp only[go_sem]) aa (by rw[eM];simp) ?_;rw[q,←yF];simp only[go_sem,ZV,e];have j:(aq a++[0]).length=(aq a).length+1:=aB;have s:W.aA (aq a++[0]):=(gp a).app (.mk ag W.aA.nil);refine(S9 (aq a++[0]) (aq b) _ s (gp b) aa aa j 5 _ _ ?_).mono ?_
   ·simp only[go_sem]
   rintro _ d ⟨y,k,D,w,c,g⟩;have r:W.val (aq a++[0])=a:=by rw[W.fF,gi];simp[W.val]
   rw[r,gi]at c;have p:k=0:=by
    have z:=nS a;have A:=eG (nS b) (gl (n:=18446744073709551616) ag hl);rw[j,cQ]at c;have B:a+b<18446744073709551616^(aq a).length*18446744073709551616:=aa;cases k with
    |zero=>rfl
    |succ k=>rw[Nat.mul_succ]at c;omega
   rw[p,fc,cE,i]at c;simp only[go_sem,ZU];refine jk (qT y aa) g.at ⟨0,_,_,dj.2 rfl⟩ (.cons (qs g.at (by rw[af.aK,ak rfl]) aa) .nil) ?_;simp only[go_sem];exact iA (by rw[l_ w,c]) (dr _)
 by_cases h:(aq m).length<(aq n).length
 ·simp(disch:=omega)only[go_sem,d239,LS,dt];refine l n m _ aa u aa ?_ ?_
  iterate 2 simp only[go_sem]
 ·simp(disch:=omega)only[go_sem,d239,LS,df];refine l m n _ aa t rfl ?_ ?_
  iterate 2 simp only[go_sem]
structure cI (H:af) (b g:Nat) (cs:List V):Prop where
 row:H.get b=.cells cs g
 bB:∃f,H.get g=.bB b f∧f≤b
 ne:g≠0
theorem cI.fR(d:cI c a h b):c.fR a h=true:=by
 obtain⟨f,e,g⟩:=d.bB;exact xN e g
theorem cI.JX(d:cI c a h b):a≠h:=by
 obtain⟨f,g,i⟩:=d.bB;intro e;have:=d.row;rw[e,g]at this;cases this
structure mq (H H1:af) (b g:Nat) (cs:List V):Prop where
 mJ:cI H1 b g cs
 next:H1.next=H.next
 get:∀y,y≠b→y≠g→H1.get y=H.get y
theorem mq.refl(d:cI c a h b):mq c c a h b:=⟨d,rfl,fun _ _ _=>rfl⟩
def af.wr(H:af)(b g:Nat)(a:List V):af:=(H.set b (.cells a g)).set g (.bB b b)
theorem mq.wr(d:mq c H a h b)(f:List V):mq c (af.wr H a h f) a h f:=by
 have j:=d.mJ.JX;refine⟨⟨?_,⟨a,?_,aE _⟩,d.mJ.ne⟩,d.next,fun y g i=>?_⟩
 ·unfold af.wr;rw[af.aK,aj (fun e=>j e.symm),af.aK,ak rfl]
 ·unfold af.wr;rw[af.aK,ak rfl]
 ·unfold af.wr;rw[af.aK,aj (fun e=>i e.symm),af.aK,aj (fun e=>g e.symm)];exact d.get y g i
theorem sR(d:cI c h u b):iq false a [.ptr h L] c=cK b L:=by
 rw[Gs,d.row];exact Gr d.fR
theorem HX{o:Nat}{v:V}(e:cI c a h b)(n:o<b.length)(g:bg v=true∧cellsOf v=[v]∧V.one v=true):oL 1 [.ptr a o,v] c=some (V.undef,af.wr c a h (b.set o v)):=by
 obtain⟨f,k,_⟩:=e.bB;obtain⟨d,m⟩:∃d,h=d+1:=⟨h-1,by have:=e.ne;omega⟩;have l:=e.row;show aQ (and (bg v) (bn (cr (cellsOf v)) 1)) (ao (c.e5 a o (cellsOf v)) fun c=>some (V.undef,c))=_;rw[g.1,g.2.1];unfold af.e5;rw[l];show aQ true (ao (aQ (and v.one true) (ao (cC [v] b o) fun j=>Nat.rec (motive:=fun _=>Option af) (some (c.set a (.cells j 0))) (fun _ _=>cP.casesOn (motive:=fun _=>Option af) (c.get h) aM (fun _ _=>aM) (fun i _=>aQ (bn i a) (some ((c.set a (.cells j h)).set h (.bB a a)))) (fun _=>aM)) h)) fun c=>some (V.undef,c))=_;rw[e9 n,g.2.2];subst m;show aQ true (ao (aQ true (cP.casesOn (motive:=fun _=>Option af) (c.get (d+1)) aM (fun _ _=>aM) (fun i _=>aQ (bn i a) (some ((c.set a (.cells (b.set o v) (d+1))).set (d+1) (.bB a a)))) (fun _=>aM))) fun c=>some (V.undef,c))=_;rw[k];show aQ true (ao (aQ true (aQ (bn a a) (some ((c.set a (.cells (b.set o v) (d+1))).set (d+1) (.bB a a))))) fun c=>some (V.undef,c))=_;rw[sn];rfl
theorem ym{n:Nat}(d:cI c a h b)(e:u<b.length):oL 1 [.ptr a u,ay (n:Int)] c=some (V.undef,af.wr c a h (b.set u (ay (n:Int)))):=HX d e ⟨rfl,rfl,rfl⟩
theorem wX{P z:Nat}{V X Y:Nat}(c:X+P*h=V+Y)(b:u+18446744073709551616*z=a+L+h):X+P*u+P*18446744073709551616*z=V+P*a+(Y+P*L):=by
 have e:=congrArg (P* ·) b;simp only[bD,←bT]at e;omega
theorem sub_one{y:Nat}(c:a<18446744073709551616)(d:y<18446744073709551616)(b:h≤1):a+18446744073709551616*(if y+h≤a then 0 else 1)=(a+18446744073709551616-y-h)%18446744073709551616+y+h:=by
 split<;>omega
theorem aqF(a d:List Nat)(n:Nat)(N:W.aA a)(V:W.aA d)(hl:d.length≤a.length)(ls:a.length<1000000)(U:a.length=n)(b g:Nat)(c:Cap)(H:af)(S:cI H b g (aL a)):
 c7 303 [.slice b 0 n c,bl d] H fun _ j=>∃y k,y.length=a.length∧W.aA y∧W.val a+18446744073709551616^a.length*k=W.val y+W.val d∧mq H j b g (aL y):=by
 subst U;refine aT ak0 ?_;simp(disch:=omega)only[go_sem,d303,abD]
 refine bH (fun k F j=>∃(ds:List Nat) (e:Nat),k=d.length-ds.length∧ds.length≤d.length∧rd 0 F=.slice b 0 a.length c∧rd 1 F=bl d∧rd 4 F=ay (e:Int)∧rd 8 F=bl d∧rd 9 F=ah (d.length:Int)∧rd 10 F=ah (ds.length:Int)∧e≤1∧W.aA ds∧
  W.val (a.take ds.length)+18446744073709551616^ds.length*e=W.val ds+W.val (d.take ds.length)∧mq H j b g (aL (ds++a.drop ds.length))) d.length ⟨[],0,rfl,bQ _,?_,?_,?_,?_,?_,?_,aa,W.aA.nil,rfl,mq.refl S⟩ ?_
 iterate 2 simp only[go_sem]
 ·simp only[go_sem];rfl
 iterate 2 simp only[go_sem]
 ·simp only[go_sem];rfl
 rintro k F j ⟨ds,e,rfl,D,i,A,m,C,x,B,o,t,r,f⟩;rw[abx];by_cases hi:ds.length<d.length
 ·have O:=N.getD ds.length;have X:=V.getD ds.length;have E:=ry (l:=a) (i:=ds.length) aa;rw[E]at f;have w:=f.mJ;have J:ds.length<(aL (ds++a.getD ds.length 0::a.drop (ds.length+1))).length:=by rw[eM];simp
  have K:ds.length<(ds++a.getD ds.length 0::a.drop (ds.length+1)).length:=aB;have G:=zn ds (a.drop (ds.length+1)) (a.getD ds.length 0);have I:iq false 1 [.ptr b ds.length] j=some (ay ((a.getD ds.length 0:Nat):Int)):=by rw[sR w,dw K,G]
  obtain⟨s,q⟩:∃s,s=(a.getD ds.length 0+18446744073709551616-d.getD ds.length 0-e)%18446744073709551616:=⟨_,rfl⟩;obtain⟨z,h⟩:∃z,z=(if d.getD ds.length 0+e≤a.getD ds.length 0 then 0 else 1:Nat):=⟨_,rfl⟩;have v:=sub_one O X o;rw[←q,←h]at v;have u:=CX (a:=a.getD ds.length 0) (b:=d.getD ds.length 0) o;rw[←q,←h]at u;have M:=ym (n:=s) w J;have P:z≤1:=by rw[h];split<;>omega
  have L:s<18446744073709551616:=aa;clear q h;simp(disch:=omega)only[go_sem,Mc,abw,abv,i,m,C,x,B,dt,gN,b3,dw,I,u,M,aH];refine⟨d.length-(ds.length+1),aa,ds++[s],z,aB,by simp;omega,?_,?_,?_,?_,?_,?_,P,t.app (.mk L W.aA.nil),?_,?_⟩
  iterate 5 simp only[go_sem,i,A,C,x]
  ·simp only[go_sem,aS,gH];rfl
  ·rw[W.fF];simp only[aS,gH,cQ,W.val,fc,cE];rw[kM aa,kM aa];exact wX r v
  ·rw[kj,CL];have:=f.wr (aL ((ds++[s])++a.drop (ds.length+1)));simpa using this
 ·have p:ds.length=d.length:=aa;simp(disch:=omega)only[go_sem,Mc,abC,abB,A,x,B,df]
  refine bH (fun k F j=>∃(ds:List Nat) (e:Nat),k=a.length-ds.length∧d.length≤ds.length∧ds.length≤a.length∧rd 0 F=.slice b 0 a.length c∧rd 4 F=ay (e:Int)∧rd 7 F=ah (ds.length:Int)∧e≤1∧W.aA ds∧
   W.val (a.take ds.length)+18446744073709551616^ds.length*e=W.val ds+W.val d∧mq H j b g (aL (ds++a.drop ds.length))) (a.length-ds.length) ⟨ds,e,rfl,aa,aa,?_,?_,?_,o,t,by rw[r,p,b_ (l:=d) (aE _)],f⟩ ?_
  iterate 3 simp only[go_sem,i,m,p]
  clear r f t o p D i A m C x B hi;rintro k Y R ⟨ds,e,rfl,Z,D,i,m,Q,o,t,r,f⟩;rw[abA];by_cases T:e=0
  ·subst T;simp(disch:=omega)only[go_sem,m,jT,decide_true];refine⟨ds++a.drop ds.length,0,by simp;omega,t.app (N.drop _),?_,f⟩;rw[W.fF,W.pV a ds.length D];omega
  ·by_cases hi:ds.length<a.length
   ·have O:=N.getD ds.length;have E:=ry (l:=a) (i:=ds.length) aa;rw[E]at f;have w:=f.mJ;have J:ds.length<(aL (ds++a.getD ds.length 0::a.drop (ds.length+1))).length:=by rw[eM];simp
    have K:ds.length<(ds++a.getD ds.length 0::a.drop (ds.length+1)).length:=aB;have G:=zn ds (a.drop (ds.length+1)) (a.getD ds.length 0);have I:iq false 1 [.ptr b ds.length] R=some (ay ((a.getD ds.length 0:Nat):Int)):=by rw[sR w,dw K,G]
    obtain⟨s,q⟩:∃s,s=(a.getD ds.length 0+18446744073709551616-0-e)%18446744073709551616:=⟨_,rfl⟩;obtain⟨z,h⟩:∃z,z=(if 0+e≤a.getD ds.length 0 then 0 else 1:Nat):=⟨_,rfl⟩;have v:=sub_one (y:=0) O ag o;rw[←q,←h]at v;have u:=CX (a:=a.getD ds.length 0) (b:=0) o;rw[←q,←h]at u;simp only[jT]at u;have M:=ym (n:=s) w J;have P:z≤1:=by rw[h];split<;>omega
    have L:s<18446744073709551616:=aa;clear q h;simp(disch:=omega)only[go_sem,abz,aby,i,m,Q,dt,df,b3,I,u,M,aH];refine⟨a.length-(ds.length+1),aa,ds++[s],z,aB,by simp;omega,by simp;omega,?_,?_,?_,P,t.app (.mk L W.aA.nil),?_,?_⟩
    iterate 2 simp only[go_sem,i]
    ·simp only[go_sem,aS,gH];rfl
    ·rw[W.fF];simp only[aS,gH,cQ,W.val,fc,cE];rw[kM aa];have:=wX r v;rw[fc,cE]at this;exact this
    ·rw[kj,CL];have:=f.wr (aL ((ds++[s])++a.drop (ds.length+1)));simpa using this
   ·have p:ds.length=a.length:=aa;simp(disch:=omega)only[go_sem,i,m,Q,df];rw[p,jB (aE _),fG]at f;rw[p,b_ (aE _)]at r;exact⟨ds,e,p,t,r,f⟩
theorem cI.cS(b:cI c a h (aL d))(e:u≤d.length):c.cS a 0 u=some (aL (d.take u)):=by
 unfold af.cS;rw[y9 b.row b.fR];show cq (eC (aL d) 0) u=_;rw[c_,e4,ak (by rw[eM];exact e)];simp[aL,List.map_take]
theorem rB{b:Cap}{l:List Nat}(g:cI c a h (aL d))(i:H.get a=.none)(k:l.length=u)(f:d.take u=l):bR c H (.slice a 0 u b) (bl l):=by
 subst k;have j:l.length≤d.length:=by
  have:=congrArg ku f;rw[dD]at this;omega
 cases l with
 |nil=>exact .eW a 0 b
 |cons e l=>
  refine .row (m:=(e::l).length) (cs:=aL (e::l)) ?_ (lf _) i (cD.refl _);rw[g.cS j,f]
theorem RL(b:0≤q∧q≤h):slice3 (j7 1) false true false [.slice a 0 h (.grown 1),.int n q]=some (.val (.slice a 0 q.toNat (.grown 1))):=by
 show aQ true (v_ a 0 h (.grown 1) 1 none (some (.int n q)))=_;unfold v_;rw[sA (l:=0) (h:=q.toNat) rfl (mw n b.1) (bQ _) aa];rfl
theorem C3(l:List Nat)(M:List Nat)(n:Nat)(q:l.length=n)(f:M.take n=l)(hl:M.length<4294967296)(b g:Nat)(H:af)(o:cI H b g (aL M)):
 c7 252 [.slice b 0 n (.grown 1)] H fun v c=>v=.slice b 0 (W.trim l).length (.grown 1)∧c=H:=by
 subst q;have s:l.length≤M.length:=by
  have:=congrArg ku f;rw[dD]at this;omega
 refine aT Gi ?_;simp only[go_sem,d252,ES,ER];refine bH (fun k F c=>∃m:Nat,rd 0 F=.slice b 0 l.length (.grown 1)∧rd 3 F=ah (m:Int)∧W.trim (l.take m)=W.trim l∧k=m∧m≤l.length∧c=H) l.length ⟨l.length,?_,?_,by rw[b_ (aE _)],rfl,aE _,rfl⟩ ?_
 iterate 2 simp only[go_sem]
 rintro m F c ⟨_,d,e,a,rfl,t,rfl⟩;rw[EP];cases m with
 |zero=>
  simp(disch:=omega)only[go_sem,xj,d,e,df,RL];refine⟨?_,trivial⟩;rw[←a];rfl
 |succ i=>
  have hi:(((i+1:Nat):Int)-1).toNat=i:=aa;have p:M.getD i 0=l.getD i 0:=by
   rw[←f];simp only[bX];rw[List.getElem?_take,ak aa]
  have r:l.take (i+1)=l.take i++[l.getD i 0]:=by
   rw[kQ aa,bX,cn aa];rfl
  have j:iq false 1 [.ptr b i] c=some (ay ((l.getD i 0:Nat):Int)):=by rw[sR o,dw aa,p]
  rw[r]at a;by_cases h:l.getD i 0=0
  ·simp(disch:=omega)only[go_sem,EO,d,e,dt,aH,b3,hi,j];refine⟨i,aa,i,?_,?_,?_,rfl,aa,rfl⟩
   ·simp only[go_sem,d]
   ·simp only[go_sem];congr 1;omega
   ·rw[h,W.yy]at a;exact a
  ·simp(disch:=omega)only[go_sem,xj,d,e,dt,df,aH,b3,hi,j,RL];rw[W.yw _ _ h]at a;rw[←a];simp;omega
theorem Bu{H:af}{bytes n:Nat}{cs:List V}(c:H.get h=.cells [] 0)(o:0<n)(d:cs.length=n*a)(g:n≤1073741824∧bytes≤1024)
 (j:e (put m i (.slice H.next 0 n (.grown a))) ((H.push (.cells cs (H.next+1))).push (.bB H.next H.next))):gj i e m (fH a bytes [.slice h 0 0 (.known 0),.row n cs] H):=by
 have f:dS H a n (.row n cs)=some cs:=iC d;have b:fH a bytes [.slice h 0 0 (.known 0),.row n cs] H=lz H a n cs:=by
  show ao (some n) (fun n=>ao (dS H a n (.row _ cs)) fun k=>jX a bytes (.slice h 0 0 (.known 0)) n k H)=_;show ao (dS H a n (.row n cs)) _=_;rw[f];show Bool.casesOn (motive:=fun _=>Option (V×af)) (fh n) (aQ (je (0+n) bytes) (Bool.casesOn (motive:=fun _=>Option (V×af)) (bM (0+n) 0) (ao (H.cS h 0 (0*a)) fun l=>lz H a (0+n) (cW l cs)) (ao (H.e5 h (0+0*a) cs) fun H=>some (V.slice h 0 (0+n) (.known 0),H)))) (some (V.slice h 0 0 (.known 0),H))=_;rw[rH aa,qq ⟨aa,cy (j_ (aa:0+n≤1073741824) g.2) ag⟩,show bM (0+n) 0=false from by
   cases n with
   |zero=>omega
   |succ n=>rw[dK];rfl,fJ c]
  simp only[jb,c_,zD,zR,Cm,B5,dK]
 rw[b];exact j
theorem y_(l:List Nat)(h:0<l.length∧l.length≤1000000)(H:af):c7 248 [bl l] H fun v a=>v=.slice (H.next+1) 0 l.length (.grown 1)∧cI a (H.next+1) (H.next+2) (aL l)∧a.next=H.next+3∧∀y,y<H.next→a.get y=H.get y:=by
 refine aT O0 ?_;have b:ox false (.slice 166) [bl l,.an]=some (.val aD):=by
  obtain⟨n,c⟩:∃n,l.length=n+1:=⟨l.length-1,aa⟩;unfold bl;rw[c];rfl
 simp only[go_sem,d248,LX,aaf,b];refine Bu (n:=l.length) (cs:=aL l) (by simp only[go_sem]) h.1 (by rw[eM,dF]) ⟨aa,ag⟩ ?_;simp only[go_sem];refine⟨trivial,⟨?_,⟨H.next+1,?_,aE _⟩,aa⟩,trivial,fun y d=>?_⟩
 ·simp(disch:=omega)only[go_sem,aj]
 ·simp(disch:=omega)only[go_sem]
 ·simp(disch:=omega)only[go_sem,aj]
theorem R4(m n:Nat)(h:n≤m)(s:(aq m).length<100000):aW 240 [bl (aq m),bl (aq n)] (bl (aq (m-n))):=by
 refine fE (.cons (dr _) (.cons (dr _) .nil)) (aT akD ?_);have hl:=lP h;by_cases q:(aq n).length=0
 ·have i:n=0:=oa fun h=>by have:=(jd n).2 h;omega
  simp(disch:=omega)only[go_sem,d240,LU,dt];exact iA (by rw[i];rfl) (dr _)
 ·simp(disch:=omega)only[go_sem,d240,LU,Z0,df];refine(y_ (aq m) ⟨aa,aa⟩ _).mono ?_;rintro _ l ⟨rfl,g,r,_⟩;simp only[go_sem,ZZ];refine(aqF (aq m) (aq n) _ (gp m) (gp n) hl aa rfl 6 7 _ _ g).mono ?_;rintro _ o ⟨c,k,b,e,a,d⟩;rw[gi,gi]at a;have j:k=0:=by
   have f:=W.gS e;rw[b]at f;cases k with
   |zero=>rfl
   |succ k=>rw[Nat.mul_succ]at a;omega
  rw[j,fc,cE]at a;simp only[go_sem,ZY];refine(C3 c c _ b (by rw[←b,b_ (aE _)]) aa 6 7 _ d.mJ).mono ?_;rintro _ p ⟨rfl,rfl⟩;simp only[go_sem];exact⟨_,rB d.mJ kN rfl (C5 c).symm,dr _,by rw[l_ e];congr 2;omega⟩
theorem qu{es:List Nat}{e:Nat}(h:d.length=a):(d++e::es).getD a 0=e:=by subst h;simp
theorem l9{L es:List Nat}{e v n:Nat}(h:L.length=n):(L++e::es).set n v=L++v::es:=by subst h;simp
theorem Qy{P x z V X Y:Nat}(c:V+P*h=X+Y*L)(b:z+x*L+h=a+18446744073709551616*u):V+P*a+P*18446744073709551616*u=X+P*z+(Y+P*x)*L:=by
 have e:=congrArg (P* ·) b;simp only[bD,←bT]at e;rw[cF];omega
theorem xS{x y:Nat}(a:x<18446744073709551616)(b:y<18446744073709551616):x*y≤340282366920938463426481119284349108225:=
 j_ (Nat.le_of_lt_succ a) (Nat.le_of_lt_succ b)
theorem S_(d a e f:List Nat)(w n:Nat)(S:W.aA a)(X:W.aA f)(G:w<18446744073709551616)(T:f.length=n)(am:a.length=n)(Y:(d++a++e).length<1000000)(o b:Nat)(U:d.length=o)(c:Cap)(H:af)(N:H.get b=.cells (aL (d++a++e)) 0):
 c7 300 [.slice b o n c,bl f,ay (w:Int)] H fun v l=>∃ds k,v=ay ((k:Nat):Int)∧k<18446744073709551616∧ds.length=n∧W.aA ds∧W.val ds+18446744073709551616^n*k=W.val a+W.val f*w∧eH H l b (aL (d++ds++e)):=by
 refine aT akY ?_;simp(disch:=omega)only[go_sem,d300,abk,abj]
 refine bH (fun k F l=>∃(ds:List Nat) (g:Nat),k=n-ds.length∧ds.length≤n∧rd 0 F=.slice b o n c∧rd 1 F=bl f∧rd 2 F=ay (w:Int)∧rd 7 F=ay (g:Int)∧rd 14 F=bl f∧rd 15 F=ah (n:Int)∧rd 16 F=ah (ds.length:Int)∧g<18446744073709551616∧W.aA ds∧
  W.val ds+18446744073709551616^ds.length*g=W.val (a.take ds.length)+W.val (f.take ds.length)*w∧eH H l b (aL (d++ds++(a.drop ds.length++e)))) n ⟨[],0,rfl,bQ _,?_,?_,?_,?_,?_,?_,?_,aa,W.aA.nil,by simp[W.val],?_⟩ ?_
 iterate 3 simp only[go_sem]
 ·simp only[go_sem];rfl
 iterate 2 simp only[go_sem,T]
 ·simp only[go_sem];rfl
 ·have:=eH.refl N;simpa using this
 rintro k F l ⟨ds,g,rfl,hd,A,M,C,D,B,t,u,O,J,y,i⟩;rw[abh];simp only[aS]at Y;by_cases hi:ds.length<n
 ·have I:=X.getD ds.length;have al:=S.getD ds.length;have P:=ry (l:=a) (i:=ds.length) aa;rw[P,eS]at i;have Q:=i.at;have m:(d++ds).length=o+ds.length:=by rw[aS,U]
  have ad:o+ds.length<(aL (d++ds++a.getD ds.length 0::(a.drop (ds.length+1)++e))).length:=by rw[eM,aS,m];simp
  have ae:o+ds.length<(d++ds++a.getD ds.length 0::(a.drop (ds.length+1)++e)).length:=by rw[aS,m];simp
  have R:=qu (es:=a.drop (ds.length+1)++e) (e:=a.getD ds.length 0) m;have V:=xS I G;obtain⟨p,z⟩:∃p,p=f.getD ds.length 0*w:=⟨_,rfl⟩;have E:=Ce _ _ I G;rw[←z]at V E;obtain⟨h,K⟩:∃s,s=p%18446744073709551616+g:=⟨_,rfl⟩;obtain⟨j,L⟩:∃s,s=a.getD ds.length 0+h%18446744073709551616:=⟨_,rfl⟩;have q:=u6 (a:=p%18446744073709551616) (b:=g) (c:=0) aa;rw[cE,←K]at q;have r:=u6 (a:=a.getD ds.length 0) (b:=h%18446744073709551616) (c:=0) aa;rw[cE,←L]at r;rw[jT]at q r;have Z:aC .u64 (((p/18446744073709551616:Nat):Int)+((h/18446744073709551616:Nat):Int))=((p/18446744073709551616+h/18446744073709551616:Nat):Int):=by rw[bW _ aa];omega
  have w2:aC .u64 (((p/18446744073709551616+h/18446744073709551616:Nat):Int)+((j/18446744073709551616:Nat):Int))=((p/18446744073709551616+h/18446744073709551616+j/18446744073709551616:Nat):Int):=by rw[bW _ aa];omega
  simp(disch:=omega)only[go_sem,Ma,abg,C,B,t,u,dt,gN,bJ,dw];refine use E ?_;simp(disch:=omega)only[go_sem,abf,A,D,u,b3,bJ,Q,dw,R,q,r,Z,w2,e9,kj,l9 m,aH];refine⟨n-(ds.length+1),aa,ds++[j%18446744073709551616],p/18446744073709551616+h/18446744073709551616+j/18446744073709551616,aB,by simp;omega,?_,?_,?_,?_,?_,?_,?_,aa,J.app (.mk aa W.aA.nil),?_,?_⟩
  iterate 6 simp only[go_sem,A,M,C,B,t]
  ·simp only[go_sem,aS,gH];rfl
  ·rw[W.fF];simp only[aS,gH,cQ,W.val,fc,cE];rw[kM aa,kM aa];exact Qy y (by rw[←z];omega)
  ·have:=i.set (aL (d++(ds++[j%18446744073709551616])++(a.drop (ds.length+1)++e)));simpa using this
 ·have x:ds.length=n:=aa;simp(disch:=omega)only[go_sem,Ma,abi,D,t,u,df];rw[x,b_ aa,b_ aa]at y;rw[x,jB aa,eI]at i;exact⟨ds,g,rfl,O,x,J,y,i⟩
theorem uo(n:Nat):W.aA (aX n 0):=fun x a=>by
 rw[List.mem_replicate]at a;rw[a.2];decide
theorem tj(n:Nat):W.val (aX n 0)=0:=by
 induction n with
 |zero=>rfl
 |succ n a=>rw[p7];simp[W.val,a]
theorem arw{ds x b:List Nat}(l:d.length=a+h)(g:ds.length=h)(j:W.val d=W.val x*W.val (b.take a))(i:a<b.length)(k:b.getD a 0=L)(f:W.val ds+18446744073709551616^h*u=W.val (d.drop a)+W.val x*L):
 W.val (d.take a++ds++[u])=W.val x*W.val (b.take (a+1)):=by
 have c:=W.pV d a aa;rw[W.fF,W.fF,aS,g6 aa,g,kM i,k,bD,←j,c];simp only[W.val,fc,cE];have e:=congrArg (18446744073709551616^a* ·) f;simp only[bD]at e;rw[gw,bT,jl,e,mo (W.val x),jl]
theorem PO(x a:List Nat)(Q:W.aA x)(S:W.aA a)(lx:x.length<40)(ly:a.length<40)(l0:0<x.length)(b:Nat)(F:Fr)(H:af)(R:X→Fr→af→Prop)(w:rd 0 F=bl x)(C:rd 6 F=.slice b 0 (x.length+a.length) (.known (x.length+a.length)))(y:rd 53 F=bl a)(z:rd 54 F=ah (a.length:Int))(B:rd 55 F=ah 0)
 (D:H.get b=.cells (aL (aX (x.length+a.length) 0)) 0)
 (E:∀m n L,rd 6 m=.slice b 0 (x.length+a.length) (.known (x.length+a.length))→W.aA L→L.length=x.length+a.length→W.val L=W.val x*W.val a→eH H n b (aL L)→R (.exit 1) m n):bx (.loop (pc 237 3)) R F H:=by
 refine bH (fun k c o=>∃(j:Nat) (A:List Nat),k=a.length-j∧j≤a.length∧rd 0 c=bl x∧rd 6 c=.slice b 0 (x.length+a.length) (.known (x.length+a.length))∧rd 53 c=bl a∧rd 54 c=ah (a.length:Int)∧rd 55 c=ah (j:Int)∧W.aA A∧A.length=j+x.length∧W.val A=W.val x*W.val (a.take j)∧
  eH H o b (aL (A++aX (a.length-j) 0))) a.length ⟨0,aX x.length 0,rfl,bQ _,w,C,y,z,B,uo _,aB,by rw[tj];simp[W.val],?_⟩ ?_
 ·have:=eH.refl D;rw[←List.replicate_append_replicate]at this;exact this
 rintro k c o ⟨j,A,rfl,Y,p,g,q,e,f,l,hl,i,d⟩;rw[ZS];by_cases hi:j<a.length
 ·have T:=S.getD j;obtain⟨r,J⟩:∃r,a.length-j=r+1:=⟨a.length-j-1,aa⟩;rw[J,p7]at d;have K:slice3 (j7 1) true true false [.slice b 0 (x.length+a.length) (.known (x.length+a.length)),ah (j:Int),ah ((j:Int)+(x.length:Int))]=some (.val (.slice b j x.length (.known (x.length+a.length-j)))):=by
   rw[CO aa];congr 3<;>omega
  have P:aC .i64 ((j:Int)+(x.length:Int))=(j:Int)+(x.length:Int):=aH _ aa;simp(disch:=omega)only[go_sem,LP,ZR,p,g,q,e,f,dt,gN,bJ,dw,P,K];have M:A++0::aX r 0=A.take j++A.drop j++0::aX r 0:=by rw[p9]
  have u:=d.at;rw[M]at u;refine(S_ (A.take j) (A.drop j) (0::aX r 0) x (a.getD j 0) _ (l.drop _) Q T rfl (by rw[gZ];omega) (by simp;omega) j b (g6 aa) _ _ u).mono ?_;rintro _ V ⟨ds,k,rfl,I,t,U,O,s⟩;have G:=s.at;have h:(A.take j++ds).length=j+x.length:=by rw[aS,g6 aa,t]
  have Z:j+x.length<(aL (A.take j++ds++0::aX r 0)).length:=by rw[eM,aS,h];simp
  have N:((j:Int)+(x.length:Int)).toNat=j+x.length:=aa;simp(disch:=omega)only[go_sem,ZQ,f,b3,N,G,e9,kj,l9 h,aH];refine⟨r,aa,j+1,A.take j++ds++[k],aa,aa,?_,?_,?_,?_,?_,((l.take _).app U).app (.mk I W.aA.nil),by rw[aS,h];simp;omega,arw hl t i hi rfl O,?_⟩
  iterate 4 simp only[go_sem,p,g,q,e]
  ·simp only[go_sem];rfl
  ·have:=(d.trans s).set (aL (A.take j++ds++k::aX r 0));rw[(aa:a.length-(j+1)=r)];simpa using this
 ·have v:j=a.length:=aa;simp(disch:=omega)only[go_sem,LP,e,f,df];rw[v,b_ (aE _)]at i;rw[v,m6,p8,fG]at d;refine E _ _ A ?_ l aa i d;simp only[go_sem,g]
theorem am3(m n:Nat)(J:(aq m).length<40)(K:(aq n).length<40):aW 237 [bl (aq m),bl (aq n)] (bl (aq (m*n))):=by
 refine fE (.cons (dr _) (.cons (dr _) .nil)) (aT akA ?_)
 have G:∀(a b:Nat) (F:Fr),(aq b).length≤(aq a).length→(aq a).length<40→a*b=m*n→rd 0 F=bl (aq a)→rd 1 F=bl (aq b)→
  bx (pc 237 16) (gk [.tmp 4] fun y i=>∃v,bR i (af.zero i.next) y v∧bz v∧v=bl (aq (m*n))) F (af.zero 5):=by
  intro a b F Q D q f p;have E:(aq b).length<40:=aa;have r:aC .i64 ((((aq a).length:Nat):Int)+1)=(((aq a).length+1:Nat):Int):=by rw[aH _ aa];omega
  have s:aC .i64 ((((aq a).length+1)/2:Nat):Int)=((((aq a).length+1)/2:Nat):Int):=by rw[aH _ aa]
  have M:¬(2:Int)=0:=ag;have C:(((aq a).length:Int)+((aq b).length:Int)).toNat=(aq a).length+(aq b).length:=aa;have t:mg (((aq a).length+1:Nat):Int) 2=((((aq a).length+1)/2:Nat):Int):=rfl;by_cases N:(aq b).length=0
  ·have I:b=0:=oa fun h=>by have:=(jd b).2 h;omega
   simp(disch:=omega)only[go_sem,Bd,Bc,f,p,dt,r,jG,t,s];rw[←q,I,fc,jY];exact⟨_,.fK,.row 0 .nil,rfl⟩
  ·by_cases k:(aq b).length=1∧(aq b).getD 0 0=1
   ·have B:b=1:=by
     rw[←gi b];obtain⟨k,u⟩:=k
     match O:aq b,k,u with
     |[x],_,u=>have:x=1:=u;simp[W.val,this]
    have w:dJ none 1 [bl (aq b),ah 0]=some (.val (.cY (aL (aq b)) 0)):=gN ⟨ag,aa⟩;simp(disch:=omega)only[go_sem,Bd,Bc,f,p,dt,df,r,jG,t,s,w,dw,k.2]
    first
     |exact iA (by rw[←q,B,dF]) (dr _)
     |(simp only[go_sem,decide_true,f];exact iA (by rw[←q,B,dF]) (dr _))
   ·have A:∀(c:Fr) (d:af) (L:List Nat),rd 6 c=.slice 5 0 ((aq a).length+(aq b).length) (.known ((aq a).length+(aq b).length))→W.aA L→L.length=(aq a).length+(aq b).length→W.val L=W.val (aq a)*W.val (aq b)→∀(z:af),eH z d 5 (aL L)→
     bx (.seq (.bN [ex 77 (mv (rd 6)),ex 78 (cm 252 [(rd 77)]),ex 4 (bS (rd 78))]) .ret) (gk [.tmp 4] fun y i=>∃v,bR i (af.zero i.next) y v∧bz v∧v=bl (aq (m*n))) c d:=by
     intro c d L j o hl l z g;simp only[go_sem,j];refine jk (qT L aa) g.at ⟨0,_,_,dj.2 rfl⟩ (.cons (qs g.at (by rw[af.aK,ak rfl]) hl) .nil) ?_;simp only[go_sem];exact iA (by rw[l_ o,l,gi,gi,q]) (dr _)
    by_cases H:(aq b).length=1
    ·have w:dJ none 1 [bl (aq b),ah 0]=some (.val (.cY (aL (aq b)) 0)):=gN ⟨ag,aa⟩;have P:¬(((aq b).getD 0 0:Nat):Int)=1:=fun e=>k ⟨H,aa⟩
     simp(disch:=omega)only[go_sem,Bd,Bc,f,p,dt,df,r,jG,t,s,w,dw,aH,ir,C,oJ];refine PO (aq a) (aq b) (gp a) (gp b) D E aa 5 _ _ _ ?_ ?_ ?_ ?_ ?_ ?_ ?_
     iterate 6 simp only[go_sem,f]
     ·intro c d L j o hl l g;rw[fA];exact A c d L j o hl l _ g
    ·simp(disch:=omega)only[go_sem,Bd,Bc,f,p,dt,df,r,jG,t,s,aH,ir,C,oJ];refine PO (aq a) (aq b) (gp a) (gp b) D E aa 5 _ _ _ ?_ ?_ ?_ ?_ ?_ ?_ ?_
     iterate 6 simp only[go_sem,f]
     ·intro c d L j o hl l g;rw[fA];exact A c d L j o hl l _ g
 by_cases h:(aq m).length<(aq n).length
 ·simp(disch:=omega)only[go_sem,d237,LO,dt];refine G n m _ aa K (bK _ _) ?_ ?_
  iterate 2 simp only[go_sem]
 ·simp(disch:=omega)only[go_sem,d237,LO,df];refine G m n _ aa J rfl ?_ ?_
  iterate 2 simp only[go_sem]
theorem xU{x y:Nat}(h:x<18446744073709551616∧y<18446744073709551616):g9 (hU .or) [ay (x:Int),ay (y:Int)]=some (.val (ay ((x|||y:Nat):Int))):=by
 show some (aY.val (ay (nN (pO .u64) (dM .u64) (Nat.lor (gQ (dM .u64) (x:Int)) (gQ (dM .u64) (y:Int))))))=_;rw[show gQ (dM .u64) (x:Int)=x from jV h.1,show gQ (dM .u64) (y:Int)=y from jV h.2];rfl
theorem sZ{s:Nat}(a:s≤64):(18446744073709551616:Nat)=2^(64-s)*2^s:=by rw[←gw,(aa:64-s+s=64)]
theorem G1{x s:Nat}(d:s≤64)(c:a<2^s):a|||(x*2^s)%18446744073709551616=a+(x*2^s)%18446744073709551616:=by
 have b:(x*2^s)%18446744073709551616=(x%2^(64-s))<<<s:=by
  rw[sZ d,su,Nat.shiftLeft_eq]
 rw[b,Nat.or_comm,←Nat.shiftLeft_add_eq_or_of_lt c,i_]
theorem DN{x s:Nat}(f:s≤64)(g:a<2^s):a+(x*2^s)%18446744073709551616<18446744073709551616:=by
 have e:=sZ f;have b:(x*2^s)%18446744073709551616=(x%2^(64-s))*2^s:=by
  rw[e,su]
 have c:x%2^(64-s)+1≤2^(64-s):=eU _ (fl ag);have d:=dn (2^s) c;rw[cF,ga,←e]at d;rw[b];omega
theorem RG{w:Nat}(b:a≤64):w/2^(64-a)=w*2^a/18446744073709551616:=by
 conv=>rhs;rw[sZ b]
 rw[Nat.mul_div_mul_right _ _ (fl ag)]
theorem RB{s:Nat}(b:a<18446744073709551616):a*2^s/18446744073709551616<2^s:=
 uU (od b (fl ag))
theorem apT{v:Nat}{X:Nat}(hl:d.length=a)(b:W.val (d++[h])=X):W.val (d++[h+v%18446744073709551616]++[v/18446744073709551616])=X+18446744073709551616^a*v:=by
 rw[←b,W.fF,W.fF,W.fF,aS,hl];simp only[W.val,fc,cE,gH,cQ];have e:18446744073709551616^a*v=18446744073709551616^a*(v%18446744073709551616)+18446744073709551616^a*18446744073709551616*(v/18446744073709551616):=by
  rw[bT,←bD,Nat.mod_add_div]
 rw[bD];omega
theorem yb(n s:Nat)(T:s≤63)(ln:(aq n).length<100000):aW 358 [bl (aq n),ay (s:Int)] (bl (aq (n*2^s))):=by
 refine fE (.cons (dr _) (.cons (.int _ _) .nil)) (aT alb ?_);have E:=gp n;have D:=gi n;by_cases G:(aq n).length=0
 ·have K:n=0:=oa fun h=>by have:=(jd n).2 h;omega
  simp(disch:=omega)only[go_sem,d358,Fa,dt];exact iA (by rw[K,jb]) (dr _)
 ·by_cases U:s=0
  ·subst U;simp(disch:=omega)only[go_sem,d358,Fa,df,jT,decide_true];exact iA (by rw[nK,dF]) (dr _)
  ·have a0:¬(64:Int)=0:=ag;have ae:mg (s:Int) 64=0:=by
    show(((s/64:Nat)):Int)=0;omega
   have al:m3 (s:Int) 64=(s:Int):=by
    show(((s%64:Nat)):Int)=_;omega
   have w0:aC .u64 (0:Int)=0:=bW _ ag;have w1:aC .i64 (0:Int)=0:=aH _ ag;have B:((((aq n).length:Nat):Int)+1).toNat=(aq n).length+1:=aa;simp(disch:=omega)only[go_sem,d358,Fa,adk,adj,adi,df,jG,mB,ae,al,w0,w1,aH,Int.add_zero,ir,B,oJ];generalize aq n=x at E D G ln B⊢
   have Q:dU s (gK .u64)=s:=kZ (aa:s≤64);have R:dU (64-s) (gK .u64)=64-s:=kZ (aa:64-s≤64);have J:aC .u64 ((64:Int)-(s:Int))=((64-s:Nat):Int):=by rw[bW _ aa];omega
   refine bH (fun k a j=>∃(i t:Nat) (A:List Nat),k=x.length-i∧i≤x.length∧rd 5 a=ah 0∧rd 6 a=ay (s:Int)∧rd 7 a=.slice 5 0 (x.length+1) (.known (x.length+1))∧rd 29 a=bl x∧rd 30 a=ah (x.length:Int)∧rd 31 a=ah (i:Int)∧W.aA A∧A.length=i∧t<2^s∧W.val (A++[t])=W.val (x.take i)*2^s∧
    eH ((af.zero 5).push (.cells (aL (aX (x.length+1) 0)) 0)) j 5 (aL (A++t::aX (x.length-i) 0))) x.length ⟨0,0,[],rfl,bQ _,?_,?_,?_,?_,?_,?_,W.aA.nil,rfl,fl ag,by simp[W.val],eH.refl ?_⟩ ?_
   iterate 5 simp only[go_sem]
   ·simp only[go_sem];rfl
   ·simp only[go_sem];rfl
   rintro k a j ⟨i,t,A,rfl,hi,o,p,d,l,c,m,F,hl,C,g,b⟩;rw[adg];have aw:2^s≤2^63:=gl ag T;have ar:(2:Nat)^63=9223372036854775808:=ag;by_cases O:i<x.length
   ·have ab:=E.getD i;obtain⟨r,S⟩:∃r,x.length-i=r+1:=⟨x.length-i-1,aa⟩;rw[S,p7 (n:=r)]at b;have L:=b.at;have u:=G1 (x:=x.getD i 0) (aa:s≤64) C;have q:=DN (x:=x.getD i 0) (aa:s≤64) C;have y:=RG (w:=x.getD i 0) (aa:s≤64);have z:=RB (s:=s) ab;have w:((x.getD i 0:Nat):Int)*((2^s:Nat):Int)=((x.getD i 0*2^s:Nat):Int):=by rw[fU]
    have f:=apT (v:=x.getD i 0*2^s) hl g;have Y:W.val (x.take i)*2^s+18446744073709551616^i*(x.getD i 0*2^s)=W.val (x.take (i+1))*2^s:=by rw[kM O,cF,bT]
    rw[Y]at f;generalize x.getD i 0*2^s=v at u q y z w f
    have Z:aC .u64 ((v:Nat):Int)=((v%18446744073709551616:Nat):Int):=by rw[hJ,Int.natCast_emod];rfl
    have a1:i<(aL (A++t::0::aX r 0)).length:=by rw[eM,aS,hl];simp
    have a2:i<(A++t::0::aX r 0).length:=by rw[aS,hl];simp
    have a3:i+1<(aL (A++(t+v%18446744073709551616)::0::aX r 0)).length:=by rw[eM,aS,hl];simp
    have M:=qu (es:=0::aX r 0) (e:=t) hl;have V:=l9 (es:=0::aX r 0) (e:=t) (v:=t+v%18446744073709551616) hl;have X:(A++(t+v%18446744073709551616)::0::aX r 0).set (i+1) (v/18446744073709551616)=A++(t+v%18446744073709551616)::(v/18446744073709551616)::aX r 0:=by
     have:=l9 (L:=A++[t+v%18446744073709551616]) (es:=aX r 0) (e:=0) (v:=v/18446744073709551616) (n:=i+1) (by rw[aS,hl];rfl);simpa using this
    have N:((i:Int)+1).toNat=i+1:=aa;have a4:v/18446744073709551616<18446744073709551616:=aa;simp(disch:=omega)only[go_sem,Mz,adf,ade,o,p,d,l,c,m,dt,gN,b3,bJ,dw,aH,Int.add_zero,Q,R,J,w,Z,mS,y,L,M,xU,u,e9,kj,V,N,X];refine⟨r,aa,i+1,v/18446744073709551616,A++[t+v%18446744073709551616],aa,aa,?_,?_,?_,?_,?_,?_,F.app (.mk q W.aA.nil),by rw[aS,hl];rfl,z,f,?_⟩
    iterate 5 simp only[go_sem,o,p,d,l,c]
    ·simp only[go_sem];rfl
    ·have H:=b.set (aL (A++(t+v%18446744073709551616)::0::aX r 0));have I:=H.set (aL (A++(t+v%18446744073709551616)::(v/18446744073709551616)::aX r 0));rw[(aa:x.length-(i+1)=r)];simpa using I
   ·have e:i=x.length:=aa;simp(disch:=omega)only[go_sem,Mz,adh,d,c,m,df];rw[e,m6,p8]at b;rw[e,b_ (aE _),D]at g;have ad:W.aA (A++[t]):=F.app (.mk aa W.aA.nil);have P:(A++[t]).length=x.length+1:=by rw[aS,hl,e];rfl
    refine jk (qT (A++[t]) aa) b.at ⟨0,_,_,dj.2 rfl⟩ (.cons (qs b.at (by rw[af.aK,ak rfl]) P) .nil) ?_;simp only[go_sem];exact iA (by rw[l_ ad,g]) (dr _)
theorem RC{s e:Nat}(a:s≤64):(e*2^(64-s))%18446744073709551616=(e%2^s)*2^(64-s):=by
 have h:(18446744073709551616:Nat)=2^s*2^(64-s):=by rw[←gw,(aa:s+(64-s)=64)]
 rw[h,su]
theorem Fw{s d:Nat}(b:s≤64)(a:d<18446744073709551616):d/2^s<2^(64-s):=by
 refine uU ?_;rw[←gw,(aa:s+(64-s)=64)];exact a
theorem wh(h:a<d.length):d.take (a+1)=d.take a++[d.getD a 0]:=by
 rw[kQ h,bX,cn h];rfl
theorem apY(n s:Nat)(E:s≤63)(ln:(aq n).length<100000):aW 363 [bl (aq n),ay (s:Int)] (bl (aq (n/2^s))):=by
 refine fE (.cons (dr _) (.cons (.int _ _) .nil)) (aT Gk ?_);have l:=gp n;have G:=gi n;have a0:¬(64:Int)=0:=ag;have J:mg (s:Int) 64=0:=by
  show(((s/64:Nat)):Int)=0;omega
 have ar:m3 (s:Int) 64=(s:Int):=by
  show(((s%64:Nat)):Int)=_;omega
 have K:aC .u64 (0:Int)=0:=bW _ ag;have w1:aC .i64 (0:Int)=0:=aH _ ag;have L:aC .u64 (((aq n).length:Nat):Int)=(((aq n).length:Nat):Int):=bW _ aa;by_cases M:(aq n).length=0
 ·have P:n=0:=oa fun h=>by have:=(jd n).2 h;omega
  simp(disch:=omega)only[go_sem,d363,Bg,jG,J,K,L,df];rw[P,Nat.zero_div,jY];exact⟨_,.fK,.row 0 .nil,rfl⟩
 ·have ht:((((aq n).length:Nat):Int)-0).toNat=(aq n).length:=aa;simp(disch:=omega)only[go_sem,d363,Bg,MF,ME,MD,dt,jG,mB,J,ar,K,w1,L,aH,Int.sub_zero,bJ,ir,oJ];generalize aq n=x at l G M ln⊢
  obtain⟨y,e⟩:∃y,y=W.shr s x:=⟨_,rfl⟩;have ae:y.length=x.length:=by rw[e,W.ta]
  have am:W.val y=n/2^s:=by rw[e,W.yd E,G]
  have al:W.aA y:=by rw[e];exact W.v5 E l
  have ad:∀i,i<x.length→y.getD i 0=x.getD i 0/2^s+(x.getD (i+1) 0%2^s)*2^(64-s):=fun i hi=>by rw[e];exact W.yc hi
  clear e;have C:dU s (gK .u64)=s:=kZ (aa:s≤64);have X:dU (64-s) (gK .u64)=64-s:=kZ (aa:64-s≤64);have O:aC .u64 ((64:Int)-(s:Int))=((64-s:Nat):Int):=by rw[bW _ aa];omega
  refine bH (fun k a w=>∃i:Nat,k=x.length-i∧i≤x.length∧rd 0 a=bl x∧rd 5 a=ah 0∧rd 6 a=ay (s:Int)∧rd 7 a=.slice 5 0 x.length (.known x.length)∧rd 26 a=ah (x.length:Int)∧rd 27 a=ah (i:Int)∧
   eH ((af.zero 5).push (.cells (aL (aX x.length 0)) 0)) w 5 (aL (y.take i++aX (x.length-i) 0))) x.length ⟨0,rfl,bQ _,?_,?_,?_,?_,?_,?_,eH.refl ?_⟩ ?_
  iterate 5 simp only[go_sem]
  ·simp only[go_sem];rfl
  ·simp only[go_sem];rfl
  rintro k a w ⟨i,rfl,hi,f,g,j,d,c,o,b⟩;rw[MB];by_cases U:i<x.length
  ·have I:=l.getD i;have a6:=l.getD (i+1);obtain⟨r,Z⟩:∃r,x.length-i=r+1:=⟨x.length-i-1,aa⟩;rw[Z,p7 (n:=r)]at b;have hl:(y.take i).length=i:=g6 aa;have a2:i<(aL (y.take i++0::aX r 0)).length:=by rw[eM,aS,hl];simp
   have A:=b.at;have F:=fun v=>l9 (es:=aX r 0) (e:=0) (v:=v) hl
   have p:=b.set (aL (y.take i++(x.getD i 0/2^s)::aX r 0));have m:=ad i U;have z:=Fw (s:=s) aa I;have S:((i:Int)+1).toNat=i+1:=aa;by_cases a1:i+1<x.length
   ·have t:=RC (e:=x.getD (i+1) 0) (s:=s) aa;have q:=G1 (x:=x.getD (i+1) 0) (s:=64-s) aa z;have V:=DN (x:=x.getD (i+1) 0) (s:=64-s) aa z;rw[t,←m]at q V;have Y:((x.getD (i+1) 0:Nat):Int)*((2^(64-s):Nat):Int)=((x.getD (i+1) 0*2^(64-s):Nat):Int):=by rw[fU]
    have H:aC .u64 ((x.getD (i+1) 0*2^(64-s):Nat):Int)=(((x.getD (i+1) 0%2^s)*2^(64-s):Nat):Int):=by
     rw[hJ,←t,Int.natCast_emod];rfl
    have B:(x.getD (i+1) 0%2^s)*2^(64-s)<18446744073709551616:=by rw[←t];exact eU _ ag
    have Q:x.getD i 0/2^s<18446744073709551616:=eY (jn _ _) I;have a3:i<(aL (y.take i++(x.getD i 0/2^s)::aX r 0)).length:=by rw[eM,aS,hl];simp
    have a4:i<(y.take i++(x.getD i 0/2^s)::aX r 0).length:=by rw[aS,hl];simp
    have R:=qu (es:=aX r 0) (e:=x.getD i 0/2^s) hl;have ab:=l9 (es:=aX r 0) (e:=x.getD i 0/2^s) (v:=y.getD i 0) hl;generalize(x.getD (i+1) 0%2^s)*2^(64-s)=u at q H B
    have D:=xU ⟨Q,B⟩;rw[q]at D;simp(disch:=omega)only[go_sem,xk,Bf,Be,f,g,j,d,c,o,dt,gN,b3,bJ,S,dw,aH,Int.add_zero,C,X,O,Y,H,mS,A,R,D,e9,kj,F,ab];refine⟨r,aa,i+1,aa,aa,?_,?_,?_,?_,?_,?_,?_⟩
    iterate 5 simp only[go_sem,f,g,j,d,c]
    ·simp only[go_sem];rfl
    ·have N:=p.set (aL (y.take i++y.getD i 0::aX r 0));rw[(aa:x.length-(i+1)=r),wh aa,eJ];exact N
   ·have ac:x.getD (i+1) 0=0:=by rw[bX,kO aa];rfl
    rw[ac,Nat.zero_mod,jb,cE]at m;rw[←m]at p;simp(disch:=omega)only[go_sem,xk,Bf,Be,f,g,j,d,c,o,dt,df,gN,b3,bJ,dw,aH,Int.add_zero,C,mS,A,e9,kj,F,←m];refine⟨r,aa,i+1,aa,aa,?_,?_,?_,?_,?_,?_,?_⟩
    iterate 5 simp only[go_sem,f,g,j,d,c]
    ·simp only[go_sem];rfl
    ·rw[(aa:x.length-(i+1)=r),wh aa,eJ];exact p
  ·have T:i=x.length:=aa;simp(disch:=omega)only[go_sem,xk,MC,d,c,o,df];rw[T,m6,p8,fG,b_ aa]at b;refine jk (qT y aa) b.at ⟨0,_,_,dj.2 rfl⟩ (.cons (qs b.at (by rw[af.aK,ak rfl]) ae) .nil) ?_;simp only[go_sem];exact iA (by rw[l_ al,am]) (dr _)
def eK(n:Nat):Nat:=if n=0 then 0 else n.log2+1
theorem Pr(n:Nat):n<2^eK n:=by
 unfold eK;split
 ·omega
 ·exact Nat.lt_log2_self
theorem Pq{n:Nat}(h:n≠0):2^(eK n-1)≤n:=by
 unfold eK;rw[aj h,qb];exact Nat.log2_self_le h
theorem B8(b:a<2^h):eK a≤h:=by
 unfold eK;split
 ·omega
 ·rename_i c;exact(Nat.log2_lt c).2 b
theorem Gt{x k:Nat}(h:2^k≤x):eK x=k+eK (x/2^k):=by
 have a:0<2^k:=fl ag;have b:x≠0:=aa;have c:x/2^k≠0:=by
  have:=(tG a).2 (aa:1*2^k≤x);omega
 unfold eK;rw[aj b,aj c];have e:=(Nat.log2_eq_iff c).1 rfl;have:x.log2=k+(x/2^k).log2:=by
  rw[Nat.log2_eq_iff b];refine⟨?_,?_⟩
  ·rw[gw,bK];exact(tG a).1 e.1
  ·rw[jl,gw,bK];exact(q8 a).1 e.2
 omega
def H9:List UInt8:=[0,1,2,2,3,3,3,3,4,4,4,4,4,4,4,4,5,5,5,5,5,5,5,5,5,5,5,5,5,5,5,5,6,6,6,6,6,6,6,6,6,6,6,6,6,6,6,6,6,6,6,6,6,6,6,6,6,6,6,6,6,6,6,6,7,7,7,7,7,7,7,7,7,7,7,7,7,7,7,7,7,7,7,7,7,7,7,7,7,7,7,7,7,7,7,7,7,7,7,7,7,7,7,7,7,7,7,7,7,7,7,7,7,7,7,7,7,7,7,7,7,7,7,7,7,7,7,7,8,8,8,8,8,8,8,8,8,8,8,8,8,8,8,8,8,8,8,8,8,8,8,8,8,8,8,8,8,8,8,8,8,8,8,8,8,8,8,8,8,8,8,8,8,8,8,8,8,8,8,8,8,8,8,8,8,8,8,8,8,8,8,8,8,8,8,8,8,8,8,8,8,8,8,8,8,8,8,8,8,8,8,8,8,8,8,8,8,8,8,8,8,8,8,8,8,8,8,8,8,8,8,8,8,8,8,8,8,8,8,8,8,8,8,8,8,8,8,8,8,8,8,8,8,8,8,8]
def J'(t:List UInt8):aP:=(.seq (.bN [ex 19 (mv (rd 2)),ex 20 (mv (rd 0)),ex 21 (cJ .u8 (rd 20)),ex 22 (cN (kc (.str t)) (rd 21)),ex 23 (cJ .i64 (rd 22)),ex 24 (bi .add (rd 19) (rd 23)),ex 2 (bS (rd 24))])
 .ret)
theorem T0:(pc 218 0)=J' H9:=Zj
theorem ai4(h:a<256):kF [.str H9,.int .u8 (a:Int)]=some (.val (.int .u8 ((eK a:Nat):Int))):=by
 have b:∀a,a<256→H9[a]? =some (gJ (eK a))∧eK a<256:=by decide+kernel
 obtain⟨c,d⟩:=b a h;rw[oE (c:=gJ (eK a)) aa (by rw[bJ];exact c)];rw[show(gJ (eK a)).toNat=eK a from by rw[UInt8.toNat_ofNat'];exact jV d]
theorem Pp(n:Nat)(m:n<18446744073709551616):aW 218 [ay (n:Int)] (ah ((eK n:Nat):Int)):=by
 refine cO (.cons (.int _ _) .nil) (.int _ _) (aT ako ?_);have hl:eK n≤64:=B8 aa;have i:∀(x d:Nat) (F:Fr),x<256→eK n=d+eK x→rd 0 F=ay (x:Int)→rd 2 F=ah (d:Int)→bx (pc 218 0) (gk [.tmp 2] fun v _=>v=ah ((eK n:Nat):Int)) F (af.zero 5):=by
  intro x d F g e a b;have l:aC .u8 ((x:Nat):Int)=(x:Int):=FL _ aa;rw[T0];simp(disch:=omega)only[go_sem,J',a,b,l,ai4,aH];congr 1;omega
 have j:∀(x d:Nat) (F:Fr),x<65536→eK n=d+eK x→rd 0 F=ay (x:Int)→rd 2 F=ah (d:Int)→bx (pc 218 1) (gk [.tmp 2] fun v _=>v=ah ((eK n:Nat):Int)) F (af.zero 5):=by
  intro x d F g e a b;have c:dU 8 (gK .u64)=8:=rfl;by_cases h:x<256
  ·simp(disch:=omega)only[go_sem,Lz,a,dt];refine i x d _ h e ?_ ?_
   iterate 2 simp only[go_sem,a,b]
  ·have f:=Gt (x:=x) (k:=8) aa;simp(disch:=omega)only[go_sem,Lz,a,b,df,c,mS,aH];refine i (x/2^8) (d+8) _ aa aa ?_ ?_
   ·simp only[go_sem]
   ·simp only[go_sem];rfl
 have k:∀(x d:Nat) (F:Fr),x<4294967296→eK n=d+eK x→rd 0 F=ay (x:Int)→rd 2 F=ah (d:Int)→bx (pc 218 2) (gk [.tmp 2] fun v _=>v=ah ((eK n:Nat):Int)) F (af.zero 5):=by
  intro x d F g e a b;have c:dU 16 (gK .u64)=16:=rfl;by_cases h:x<65536
  ·simp(disch:=omega)only[go_sem,LA,a,dt];refine j x d _ h e ?_ ?_
   iterate 2 simp only[go_sem,a,b]
  ·have f:=Gt (x:=x) (k:=16) aa;simp(disch:=omega)only[go_sem,LA,a,b,df,c,mS,aH];refine j (x/2^16) (d+16) _ aa aa ?_ ?_
   ·simp only[go_sem]
   ·simp only[go_sem];rfl
 have c:dU 32 (gK .u64)=32:=rfl;by_cases h:n<4294967296
 ·simp(disch:=omega)only[go_sem,d218,LB,dt];refine k n 0 _ h aa ?_ ?_
  ·simp only[go_sem]
  ·simp only[go_sem];rfl
 ·have f:=Gt (x:=n) (k:=32) aa;simp(disch:=omega)only[go_sem,d218,LB,df,c,mS];refine k (n/2^32) 32 _ aa aa ?_ ?_
  ·simp only[go_sem]
  ·simp only[go_sem];rfl
theorem zF(n:Nat)(a:n<18446744073709551616):aW 308 [ay (n:Int)] (ah ((64-eK n:Nat):Int)):=by
 refine cO (.cons (.int _ _) .nil) (.int _ _) (aT ak4 ?_);have hl:eK n≤64:=B8 aa;simp only[go_sem,d308,ab3];refine use (Pp n a) ?_;simp(disch:=omega)only[go_sem,aH];congr 1;omega
theorem zG{y:Nat}(b:y≠0)(g:y<18446744073709551616):64-eK y≤63∧9223372036854775808≤y*2^(64-eK y)∧y*2^(64-eK y)<18446744073709551616:=by
 have hl:eK y≤64:=B8 aa;have a:=Pr y;have c:=Pq b;have f:eK y≠0:=fun e=>by rw[e]at a;omega
 have d:0<2^(64-eK y):=fl ag;refine⟨aa,?_,?_⟩
 ·have:=dn (2^(64-eK y)) c;rw[←gw,(aa:eK y-1+(64-eK y)=63)]at this;exact this
 ·have:=od a d;rw[←gw,(aa:eK y+(64-eK y)=64)]at this;exact this
theorem Nt{q r:Nat}(b:lH a h u L q r)(c:(a*4294967296+h)/(u*4294967296+L)<q):lH a h u L (q-1) (r+u):=by
 have e:q*u=(q-1)*u+u:=by
  cases q with
  |zero=>exact absurd c (ke _)
  |succ q=>rw[qb,cF,ga]
 exact⟨by have:=b.top;omega,aa⟩
theorem af5(u d a b:Nat)(C:d<4294967296)(P:2147483648≤a∧a<4294967296)(a5:b<4294967296)(hu:u<a*4294967296+b)(F:Fr)(H:af)(R:X→Fr→af→Prop)(J:rd 15 F=ay ((u/a:Nat):Int))(I:rd 16 F=ay ((u%a:Nat):Int))(x:rd 9 F=ay (a:Int))(G:rd 10 F=ay (b:Int))(K:rd 13 F=ay (d:Int))
 (B:∀w,(∀t,t<67→t≠15→t≠16→rd t w=rd t F)→rd 15 w=ay (((u*4294967296+d)/(a*4294967296+b):Nat):Int)→R (.exit 0) w H):bx (.loop (pc 314 4)) R F H:=by
 have am:u<a*4294967298:=by
  obtain⟨f,c⟩:=P;have e:a*4294967298=a*4294967296+a*2:=bD a 4294967296 2;rw[e];clear B J I x G K C c e;generalize a*4294967296=z at*
  omega
 have ab:u*4294967296+d<(a*4294967296+b)*4294967296:=aa;have Z:=uU ab;obtain⟨Q,A⟩:∃Q,Q=(u*4294967296+d)/(a*4294967296+b):=⟨_,rfl⟩;rw[←A]at Z;have O:=uU (m:=u) (n:=a) (k:=4294967298) am;have ae:u/a≤4294967297:=by
  generalize u/a=z at O
  omega
 refine bH (fun k i p=>∃r:Nat,(∀t,t<67→t≠15→t≠16→rd t i=rd t F)∧rd 15 i=ay (k:Int)∧rd 16 i=ay (r:Int)∧lH u d a b k r∧r<4294967296∧k≤4294967297∧p=H) (u/a) ⟨u%a,fun _ _ _ _=>rfl,J,I,lH.start C aa,qe (eU _ aa) P.2,ae,rfl⟩ ?_;rintro q i p ⟨r,j,mE,s,v,hr,hq,rfl⟩;have f9:=(j 9 ag ag ag).trans x;have L:=(j 10 ag ag ag).trans G;have M:=(j 13 ag ag ag).trans K;rw[acy];have V:aC .u64 ((r:Int)+(a:Int))=((r+a:Nat):Int):=by rw[bW _ aa];omega
 have ad:=v.ge;rw[←A]at ad;have E:lH u d a b (q-1) (r+a)→1≤q→∀l:Fr,(∀t,t<67→t≠15→t≠16→rd t l=rd t F)→rd 15 l=ay (q:Int)→rd 16 l=ay (r:Int)→bx (pc 314 3) (fq (oY (fun k i Y=>∃r:Nat,(∀t,t<67→t≠15→t≠16→rd t i=rd t F)∧rd 15 i=ay (k:Int)∧rd 16 i=ay (r:Int)∧lH u d a b k r∧r<4294967296∧k≤4294967297∧Y=p) q) R) l p:=by
  intro N O l y rD sL;have cM:=(y 9 ag ag ag).trans x;have W:aC .u64 ((q:Int)-1)=((q-1:Nat):Int):=by rw[bW _ aa];omega
  by_cases hb:4294967296≤r+a
  ·simp(disch:=omega)only[go_sem,Mr,Mn,Mm,Ml,rD,sL,cM,W,V,df];rw[DX ag];have D:q-1=(u*4294967296+d)/(a*4294967296+b):=by
    refine N.done aa ?_;have f:(q-1)*b≤4294967296*4294967295:=j_ aa aa;have c:4294967296*4294967296≤(r+a)*4294967296:=dn _ hb;omega
   refine B _ (fun t f c g=>?_) ?_
   ·simp(disch:=omega)only[bV];exact y t f c g
   ·simp only[go_sem,D]
  ·simp(disch:=omega)only[go_sem,Mr,Mn,Mm,Ml,rD,sL,cM,W,V,dt];refine⟨q-1,aa,r+a,fun t f c g=>?_,?_,?_,N,aa,aa,rfl⟩
   ·simp(disch:=omega)only[bV];exact y t f c g
   iterate 2 simp only[go_sem]
 by_cases a2:4294967296≤q
 ·simp(disch:=omega)only[go_sem,mE,df];refine E (Nt v (by rw[←A];omega)) aa _ (fun t f c g=>?_) ?_ ?_
  ·simp(disch:=omega)only[bV];exact j t f c g
  iterate 2 simp only[go_sem,mE,s]
 ·have hm:q*b≤4294967295*4294967295:=j_ aa aa;have S:aC .u64 ((q:Int)*(b:Int))=((q*b:Nat):Int):=by rw[←fU];exact bW _ aa
  have T:aC .u64 ((4294967296:Int)*(r:Int))=((r*4294967296:Nat):Int):=by rw[bW _ aa];omega
  have U:aC .u64 (((r*4294967296:Nat):Int)+(d:Int))=((r*4294967296+d:Nat):Int):=by rw[bW _ aa];omega
  by_cases o:r*4294967296+d<q*b
  ·have ar:(((r*4294967296+d:Nat):Int))<((q*b:Nat):Int):=m0.2 o;have al:1≤q:=by
    rcases so q with e|e
    ·rw[e,jb]at o;omega
    ·exact e
   simp(disch:=omega)only[go_sem,mE,s,L,M,dt,S,T,U];refine E (v.down C aa o) al _ (fun t f c g=>?_) ?_ ?_
   ·simp(disch:=omega)only[bV];exact j t f c g
   iterate 2 simp only[go_sem,mE,s]
  ·have D:=v.done aa (jC o);have a0:¬(((r*4294967296+d:Nat):Int))<((q*b:Nat):Int):=fun h=>o (m0.1 h)
   simp(disch:=omega)only[go_sem,mE,s,L,M,dt,df,S,T,U];refine B _ (fun t f c g=>?_) ?_
   ·simp(disch:=omega)only[bV];exact j t f c g
   ·simp only[go_sem,mE,D]
theorem af6(u d a b:Nat)(C:d<4294967296)(P:2147483648≤a∧a<4294967296)(a5:b<4294967296)(hu:u<a*4294967296+b)(F:Fr)(H:af)(R:X→Fr→af→Prop)(J:rd 18 F=ay ((u/a:Nat):Int))(I:rd 16 F=ay ((u%a:Nat):Int))(x:rd 9 F=ay (a:Int))(G:rd 10 F=ay (b:Int))(K:rd 14 F=ay (d:Int))
 (B:∀w,(∀t,t<67→t≠18→t≠16→rd t w=rd t F)→rd 18 w=ay (((u*4294967296+d)/(a*4294967296+b):Nat):Int)→R (.exit 2) w H):bx (.loop (pc 314 9)) R F H:=by
 have am:u<a*4294967298:=by
  obtain⟨f,c⟩:=P;have e:a*4294967298=a*4294967296+a*2:=bD a 4294967296 2;rw[e];clear B J I x G K C c e;generalize a*4294967296=z at*
  omega
 have ab:u*4294967296+d<(a*4294967296+b)*4294967296:=aa;have Z:=uU ab;obtain⟨Q,A⟩:∃Q,Q=(u*4294967296+d)/(a*4294967296+b):=⟨_,rfl⟩;rw[←A]at Z;have O:=uU (m:=u) (n:=a) (k:=4294967298) am;have ae:u/a≤4294967297:=by
  generalize u/a=z at O
  omega
 refine bH (fun k i p=>∃r:Nat,(∀t,t<67→t≠18→t≠16→rd t i=rd t F)∧rd 18 i=ay (k:Int)∧rd 16 i=ay (r:Int)∧lH u d a b k r∧r<4294967296∧k≤4294967297∧p=H) (u/a) ⟨u%a,fun _ _ _ _=>rfl,J,I,lH.start C aa,qe (eU _ aa) P.2,ae,rfl⟩ ?_;rintro q i p ⟨r,j,mE,s,v,hr,hq,rfl⟩;have f9:=(j 9 ag ag ag).trans x;have L:=(j 10 ag ag ag).trans G;have M:=(j 14 ag ag ag).trans K;rw[acz];have V:aC .u64 ((r:Int)+(a:Int))=((r+a:Nat):Int):=by rw[bW _ aa];omega
 have ad:=v.ge;rw[←A]at ad;have E:lH u d a b (q-1) (r+a)→1≤q→∀l:Fr,(∀t,t<67→t≠18→t≠16→rd t l=rd t F)→rd 18 l=ay (q:Int)→rd 16 l=ay (r:Int)→bx (pc 314 8) (fq (oY (fun k i Y=>∃r:Nat,(∀t,t<67→t≠18→t≠16→rd t i=rd t F)∧rd 18 i=ay (k:Int)∧rd 16 i=ay (r:Int)∧lH u d a b k r∧r<4294967296∧k≤4294967297∧Y=p) q) R) l p:=by
  intro N O l y rD sL;have cM:=(y 9 ag ag ag).trans x;have W:aC .u64 ((q:Int)-1)=((q-1:Nat):Int):=by rw[bW _ aa];omega
  by_cases hb:4294967296≤r+a
  ·simp(disch:=omega)only[go_sem,Mv,Mu,Mt,Ms,rD,sL,cM,W,V,df];rw[DX ag];have D:q-1=(u*4294967296+d)/(a*4294967296+b):=by
    refine N.done aa ?_;have f:(q-1)*b≤4294967296*4294967295:=j_ aa aa;have c:4294967296*4294967296≤(r+a)*4294967296:=dn _ hb;omega
   refine B _ (fun t f c g=>?_) ?_
   ·simp(disch:=omega)only[bV];exact y t f c g
   ·simp only[go_sem,D]
  ·simp(disch:=omega)only[go_sem,Mv,Mu,Mt,Ms,rD,sL,cM,W,V,dt];refine⟨q-1,aa,r+a,fun t f c g=>?_,?_,?_,N,aa,aa,rfl⟩
   ·simp(disch:=omega)only[bV];exact y t f c g
   iterate 2 simp only[go_sem]
 by_cases a2:4294967296≤q
 ·simp(disch:=omega)only[go_sem,mE,df];refine E (Nt v (by rw[←A];omega)) aa _ (fun t f c g=>?_) ?_ ?_
  ·simp(disch:=omega)only[bV];exact j t f c g
  iterate 2 simp only[go_sem,mE,s]
 ·have hm:q*b≤4294967295*4294967295:=j_ aa aa;have S:aC .u64 ((q:Int)*(b:Int))=((q*b:Nat):Int):=by rw[←fU];exact bW _ aa
  have T:aC .u64 ((4294967296:Int)*(r:Int))=((r*4294967296:Nat):Int):=by rw[bW _ aa];omega
  have U:aC .u64 (((r*4294967296:Nat):Int)+(d:Int))=((r*4294967296+d:Nat):Int):=by rw[bW _ aa];omega
  by_cases o:r*4294967296+d<q*b
  ·have ar:(((r*4294967296+d:Nat):Int))<((q*b:Nat):Int):=m0.2 o;have al:1≤q:=by
    rcases so q with e|e
    ·rw[e,jb]at o;omega
    ·exact e
   simp(disch:=omega)only[go_sem,mE,s,L,M,dt,S,T,U];refine E (v.down C aa o) al _ (fun t f c g=>?_) ?_ ?_
   ·simp(disch:=omega)only[bV];exact j t f c g
   iterate 2 simp only[go_sem,mE,s]
  ·have D:=v.done aa (jC o);have a0:¬(((r*4294967296+d:Nat):Int))<((q*b:Nat):Int):=fun h=>o (m0.1 h)
   simp(disch:=omega)only[go_sem,mE,s,L,M,dt,df,S,T,U];refine B _ (fun t f c g=>?_) ?_
   ·simp(disch:=omega)only[bV];exact j t f c g
   ·simp only[go_sem,mE,D]
theorem af1{Y N:Nat}(b7:N=(h*a+u)*a+L)(d:0<Y):
 N/Y=(h*a+u)/Y*a+((h*a+u)%Y*a+L)/Y∧N%Y=((h*a+u)%Y*a+L)%Y:=by
 obtain⟨M,c⟩:∃M,M=h*a+u:=⟨_,rfl⟩;rw[←c]at b7⊢;have e:=jm M Y;have b:N=(M%Y*a+L)+Y*(M/Y*a):=by
  have f:M*a=Y*(M/Y*a)+M%Y*a:=by
   rw[←bT,←cF,e]
  omega
 rw[b,Nat.add_mul_div_left _ _ d,Nat.add_mul_mod_self_left];exact⟨i_ _ _,rfl⟩
theorem Bk(hi lo y:Nat)(hh:hi<y)(K:lo<18446744073709551616)(B:y<18446744073709551616):aW 314 [ay (hi:Int),ay (lo:Int),ay (y:Int)] (.az [ay (((hi*18446744073709551616+lo)/y:Nat):Int),ay (((hi*18446744073709551616+lo)%y:Nat):Int)]):=by
 by_cases h0:hi=0
 ·subst h0;have:=afT lo y K ⟨aa,B⟩;rw[jb,dK];exact this
 refine cO (.cons (.int _ _) (.cons (.int _ _) (.cons (.int _ _) .nil))) (.az (.cons (.int _ _) (.cons (.int _ _) .nil))) (aT O4 ?_);obtain⟨V,a8,a9⟩:=zG (y:=y) aa B;have M:=zF y B;obtain⟨s,U⟩:∃s,s=64-eK y:=⟨_,rfl⟩;rw[←U]at V a8 a9 M;clear U;have E:0<2^s:=fl ag;have dq:2^s≤2^63:=gl ag V;have dp:(2:Nat)^63=9223372036854775808:=ag;have bi:((y:Nat):Int)*((2^s:Nat):Int)=((y*2^s:Nat):Int):=by rw[fU]
 have bd:((hi:Nat):Int)*((2^s:Nat):Int)=((hi*2^s:Nat):Int):=by rw[fU]
 have be:((lo:Nat):Int)*((2^s:Nat):Int)=((lo*2^s:Nat):Int):=by rw[fU]
 have W:=RG (w:=lo) (aa:s≤64);have X:=RB (s:=s) K;have q:hi*2^s|||lo*2^s/18446744073709551616=hi*2^s+lo*2^s/18446744073709551616:=by
  rw[←Nat.shiftLeft_eq hi s,←Nat.shiftLeft_add_eq_or_of_lt X]
 have dT:hi*2^s+2^s≤y*2^s:=by
  have:=dn (2^s) hh;rw[oe]at this;exact this
 have J:(hi*18446744073709551616+lo)*2^s/(y*2^s)=(hi*18446744073709551616+lo)/y:=Nat.mul_div_mul_right _ _ E;have N:(hi*18446744073709551616+lo)*2^s%(y*2^s)=(hi*18446744073709551616+lo)%y*2^s:=su _ _ _;have F:(hi*18446744073709551616+lo)*2^s=hi*2^s*18446744073709551616+lo*2^s:=by rw[cF,tJ]
 rw[F]at J N;clear F;have O:dU s (gK .u64)=s:=kZ (aa:s≤64);have bc:dU (64-s) (gK .u64)=64-s:=kZ (aa:64-s≤64);have a5:aC .u64 ((64:Int)-(s:Int))=((64-s:Nat):Int):=by rw[bW _ aa];omega
 have ba:aC .u64 ((s:Nat):Int)=(s:Int):=bW _ aa;generalize y*2^s=Y at*
 generalize lo*2^s=L at*
 generalize hi*2^s=P at*
 obtain⟨t,Z⟩:∃t,t=L/18446744073709551616:=⟨_,rfl⟩;obtain⟨l,hl⟩:∃l,l=L%18446744073709551616:=⟨_,rfl⟩;have ds:L=t*18446744073709551616+l:=aa;rw[←Z]at W q X;have bb:l<18446744073709551616:=aa;have b':aC .u64 ((L:Nat):Int)=(l:Int):=by rw[hJ];omega
 clear Z hl;obtain⟨u,hu⟩:∃u,u=P+t:=⟨_,rfl⟩;rw[←hu]at q;have d1:u<Y:=aa;have b7:P*18446744073709551616+L=(u*4294967296+l/4294967296)*4294967296+l%4294967296:=aa;obtain⟨g,j⟩:=af1 b7 (aa:0<Y);rw[J]at g;rw[N]at j;obtain⟨a,e1⟩:∃v,v=Y/4294967296:=⟨_,rfl⟩;obtain⟨i,e0⟩:∃v,v=Y%4294967296:=⟨_,rfl⟩;have I:Y=a*4294967296+i:=aa;have ac:2147483648≤a∧a<4294967296:=aa;have ab:i<4294967296:=aa;have d6:¬((y:Nat):Int)=0:=aa;have d5:¬((hi:Nat):Int)=0:=aa;have d0:((hi:Nat):Int)<(y:Int):=aa;have R:=xU (x:=P) (y:=t) ⟨aa,aa⟩;rw[q]at R;simp(disch:=assumption)only[go_sem,d314,Mq,Mp,Mo,acw,df,dt];refine use M ?_;have a':aC .u64 ((Y:Nat):Int)=(Y:Int):=bW _ aa;have a7:aC .u64 ((P:Nat):Int)=(P:Int):=bW _ aa;have dC:=jm u a;have bs:u/a*a≤u:=wM _ _;have bj:u/a<18446744073709551616:=eY (jn _ _) aa;have da:aC .u64 ((u/a:Nat):Int)=((u/a:Nat):Int):=bW _ ⟨uR _,m0.2 bj⟩;have b0:u/a*a<18446744073709551616:=aa;have c2:aC .u64 (((u/a:Nat):Int)*(a:Int))=((u/a*a:Nat):Int):=by rw[←fU];exact bW _ ⟨uR _,m0.2 b0⟩
 have ws:aC .u64 (((u:Nat):Int)-((u/a*a:Nat):Int))=((u%a:Nat):Int):=by
  rw[bK]at bs⊢;generalize a*(u/a)=z at*
  generalize u%a=dl at*
  rw[bW _ aa];omega
 have d2:¬((a:Nat):Int)=0:=aa;have C:=AR (n:=Y) aa;rw[←e0]at C;have al:=AR bb;have c0:dU 32 (gK .u64)=32:=rfl;have ar:∀n:Nat,n/2^32=n/4294967296:=fun n=>by rw[(ag:(2:Nat)^32=4294967296)]
 simp(disch:=assumption)only[go_sem,acv,acu,acs,acr,acq,acp,aco,acn,acm,ack,ba,O,bi,a',c0,ar,←e1,C,bd,a7,a5,bc,mS,W,R,be,b',al,jG,uG,da,c2,ws];refine af5 u (l/4294967296) a i aa ac ab aa _ _ _ ?_ ?_ ?_ ?_ ?_ ?_
 iterate 5 simp only[go_sem]
 intro d b rD;rw[←I]at rD;have D:rd 2 d=ay (Y:Int):=(b 2 ag ag ag).trans (by simp only[go_sem]);have eR:rd 8 d=ay (s:Int):=(b 8 ag ag ag).trans (by simp only[go_sem]);have cM:rd 9 d=ay (a:Int):=(b 9 ag ag ag).trans (by simp only[go_sem]);have aw:rd 10 d=ay (i:Int):=(b 10 ag ag ag).trans (by simp only[go_sem]);have oC:rd 11 d=ay (u:Int):=(b 11 ag ag ag).trans (by simp only[go_sem]);have sK:rd 13 d=ay ((l/4294967296:Nat):Int):=(b 13 ag ag ag).trans (by simp only[go_sem]);have rC:rd 14 d=ay ((l%4294967296:Nat):Int):=(b 14 ag ag ag).trans (by simp only[go_sem]);clear b;obtain⟨c,H⟩:∃Q,Q=(u*4294967296+l/4294967296)/Y:=⟨_,rfl⟩;obtain⟨w,r⟩:∃w,w=(u*4294967296+l/4294967296)%Y:=⟨_,rfl⟩;have m:=jm (u*4294967296+l/4294967296) Y;have d3:w<Y:=by rw[r];exact eU _ aa
 rw[←H]at rD g m;rw[←r]at g j m;clear H r;have dv:c<4294967296:=by
  refine tI fun h=>?_
  have:=fy Y h;generalize Y*c=z at*
  omega
 have k1:aC .u64 ((u:Int)*4294967296)=((u*4294967296%18446744073709551616:Nat):Int):=by rw[hJ];omega
 have k2:aC .u64 (((u*4294967296%18446744073709551616:Nat):Int)+((l/4294967296:Nat):Int))=(((u*4294967296+l/4294967296)%18446744073709551616:Nat):Int):=by rw[hJ];omega
 obtain⟨p,S⟩:∃p,p=Y*c:=⟨_,rfl⟩;rw[←S]at m;have bA:aC .u64 ((c:Int)*(Y:Int))=((p%18446744073709551616:Nat):Int):=by rw[←fU,bK,←S,hJ];omega
 have ce:aC .u64 ((((u*4294967296+l/4294967296)%18446744073709551616:Nat):Int)-((p%18446744073709551616:Nat):Int))=(w:Int):=by rw[hJ];omega
 have dE:=jm w a;have bv:w/a*a≤w:=wM _ _;have bo:w/a<18446744073709551616:=eY (jn _ _) aa;have db:aC .u64 ((w/a:Nat):Int)=((w/a:Nat):Int):=bW _ ⟨uR _,m0.2 bo⟩;have b1:w/a*a<18446744073709551616:=aa;have c':aC .u64 (((w/a:Nat):Int)*(a:Int))=((w/a*a:Nat):Int):=by rw[←fU];exact bW _ ⟨uR _,m0.2 b1⟩
 have dk:aC .u64 (((w:Nat):Int)-((w/a*a:Nat):Int))=((w%a:Nat):Int):=by
  rw[bK]at bv⊢;generalize a*(w/a)=z at*
  generalize w%a=dl at*
  rw[bW _ aa];omega
 rw[fA];simp(disch:=assumption)only[go_sem,acj,aci,ach,acg,D,cM,oC,sK,rD,k1,k2,bA,ce,jG,uG,db,c',dk];refine af6 w (l%4294967296) a i aa ac ab aa _ _ _ ?_ ?_ ?_ ?_ ?_ ?_
 iterate 5 simp only[go_sem,cM,aw,rC]
 intro f b k;rw[←I]at k;have h2:rd 2 f=ay (Y:Int):=(b 2 ag ag ag).trans (by simp only[go_sem,D]);have h8:rd 8 f=ay (s:Int):=(b 8 ag ag ag).trans (by simp only[go_sem,eR]);have a1:rd 14 f=ay ((l%4294967296:Nat):Int):=(b 14 ag ag ag).trans (by simp only[go_sem,rC]);have a2:rd 15 f=ay (c:Int):=(b 15 ag ag ag).trans (by simp only[go_sem,rD]);have a3:rd 17 f=ay (w:Int):=(b 17 ag ag ag).trans (by simp only[go_sem]);clear b;obtain⟨e,G⟩:∃Q,Q=(w*4294967296+l%4294967296)/Y:=⟨_,rfl⟩;obtain⟨x,A⟩:∃w',w'=(w*4294967296+l%4294967296)%Y:=⟨_,rfl⟩;have o:=jm (w*4294967296+l%4294967296) Y;have d4:x<Y:=by rw[A];exact eU _ aa
 rw[←G]at k g o;rw[←A]at j o;clear G A;have du:e<4294967296:=by
  refine tI fun h=>?_
  have:=fy Y h;generalize Y*e=z at*
  omega
 have m1:aC .u64 ((w:Int)*4294967296)=((w*4294967296%18446744073709551616:Nat):Int):=by rw[hJ];omega
 have m2:aC .u64 (((w*4294967296%18446744073709551616:Nat):Int)+((l%4294967296:Nat):Int))=(((w*4294967296+l%4294967296)%18446744073709551616:Nat):Int):=by rw[hJ];omega
 obtain⟨p2,T⟩:∃p,p=Y*e:=⟨_,rfl⟩;rw[←T]at o;have ci:aC .u64 ((e:Int)*(Y:Int))=((p2%18446744073709551616:Nat):Int):=by rw[←fU,bK,←T,hJ];omega
 have co:aC .u64 ((((w*4294967296+l%4294967296)%18446744073709551616:Nat):Int)-((p2%18446744073709551616:Nat):Int))=(x:Int):=by rw[hJ];omega
 have cp:aC .u64 ((c:Int)*4294967296)=((c*4294967296:Nat):Int):=by rw[bW _ aa];omega
 have cs:aC .u64 (((c*4294967296:Nat):Int)+(e:Int))=((c*4294967296+e:Nat):Int):=by rw[bW _ aa];omega
 have ca:x/2^s=(hi*18446744073709551616+lo)%y:=by rw[←j,uW _ E]
 rw[fA];simp(disch:=assumption)only[go_sem,acf,h2,h8,a1,a2,a3,k,O,mS,m1,m2,ci,co,cp,cs,ca,←g]
theorem IA(b:0<u)(c:a<u)(d:h<18446744073709551616):(a*18446744073709551616+h)/u<18446744073709551616:=by
 rw[q8 b];have:(a+1)*18446744073709551616≤u*18446744073709551616:=dn _ c;rw[bK u]at this;omega
theorem Iz{b Q V:Nat}(c:u*L+b=a*18446744073709551616+h)(d:Q*u+a=V):(L+18446744073709551616*Q)*u+b=h+18446744073709551616*V:=by
 rw[←d,cF,bT,bD];rw[bK u]at c;omega
theorem ape(a:List Nat)(d:Nat)(s:W.aA a)(f:0<d∧d<18446744073709551616)(x:a.length<4294967295):aW 255 [bl a,ay (d:Int)] (ay ((W.val a%d:Nat):Int)):=by
 refine cO (.cons (dr _) (.cons (.int _ _) .nil)) (.int _ _) (aT akM ?_);simp(disch:=omega)only[go_sem,d255,aaN,aaM,aH];refine bH (fun k b p=>∃(j r:Nat) (Q:Nat),rd 0 b=bl a∧rd 1 b=ay (d:Int)∧rd 5 b=ay (r:Int)∧rd 6 b=ah ((j:Int)-1)∧k=j∧j≤a.length∧r<d∧Q*d+r=W.val (a.drop j)) a.length ⟨a.length,0,0,?_,?_,?_,?_,rfl,aE _,f.1,by simp[W.val]⟩ ?_
 iterate 2 simp only[go_sem]
 ·simp only[go_sem];rfl
 ·simp only[go_sem]
 rintro j b p ⟨_,r,Q,h,l,m,c,rfl,w,o,g⟩;rw[aaK];cases j with
 |zero=>
  simp(disch:=omega)only[go_sem,aaL,m,c,dt];rw[List.drop_zero]at g;rw[←g,bK,Nat.mul_add_mod,jV o]
 |succ i=>
  have t:i<a.length:=aa;have u:=s.getD i;have hi:(((i+1:Nat):Int)-1).toNat=i:=aa;have n:=eU (r*18446744073709551616+a.getD i 0) f.1;have e:=jm (r*18446744073709551616+a.getD i 0) d;simp(disch:=omega)only[go_sem,aaJ,h,l,m,c,df,gN,hi,dw];refine use (Bk r (a.getD i 0) d o u f.2) ?_;simp(disch:=omega)only[go_sem,aaI,c,aH];generalize(r*18446744073709551616+a.getD i 0)/d=q at e
  generalize(r*18446744073709551616+a.getD i 0)%d=v at n e⊢
  refine⟨i,aa,i,v,q+18446744073709551616*Q,?_,?_,?_,?_,rfl,aa,n,?_⟩
  iterate 3 simp only[go_sem,h,l]
  ·simp only[go_sem];congr 1;omega
  ·rw[W.uK t,Iz e g]
theorem HP(i v:Nat)(a:List Nat):(aX (i+1) 0++a).set i v=aX i 0++v::a:=by
 rw[List.replicate_succ',eJ,List.set_append_right _ _ aB];simp
theorem afX(a:List Nat)(d:Nat)(z:W.aA a)(e:0<d∧d<18446744073709551616)(F:a.length<4294967295):aW 364 [bl a,ay (d:Int)] (.az [bl (aq (W.val a/d)),ay ((W.val a%d:Nat):Int)]):=by
 refine fE (.cons (dr _) (.cons (.int _ _) .nil)) (aT ald ?_);simp(disch:=omega)only[go_sem,d364,adv,adu,adt,aH,ir,oJ];refine bH (fun k c p=>∃(j r:Nat) (b:List Nat),rd 0 c=bl a∧rd 1 c=ay (d:Int)∧rd 6 c=.slice 5 0 a.length (.known a.length)∧rd 7 c=ay (r:Int)∧rd 8 c=ah ((j:Int)-1)∧k=j∧j≤a.length∧W.aA b∧b.length=a.length-j∧r<d∧W.val b*d+r=W.val (a.drop j)∧p.get 5=.cells (aL (aX j 0++b)) 0) a.length ⟨a.length,0,[],?_,?_,?_,?_,?_,rfl,aE _,W.aA.nil,aB,e.1,by simp[W.val],?_⟩ ?_
 iterate 3 simp only[go_sem]
 ·simp only[go_sem];rfl
 ·simp only[go_sem]
 ·simp only[go_sem];simp
 rintro j c p ⟨_,r,b,s,t,h,u,l,rfl,D,y,hl,g,o,f⟩;rw[adr];cases j with
 |zero=>
  simp(disch:=omega)only[go_sem,ads,h,l,dt];have B:b.length=a.length:=aa;rw[p8,eI]at f;refine jk (qT b aa) f ⟨0,_,_,dj.2 rfl⟩ (.cons (qs f (by rw[af.aK,ak rfl]) B) .nil) ?_;simp(disch:=omega)only[go_sem,u];rw[List.drop_zero]at o;refine iA ?_ (.az (.cons (dr _) (.cons (.int _ _) .nil)));rw[l_ y,←o,bK (W.val b) d,Nat.mul_add_mod,jV g,Nat.mul_add_div e.1,m4 g,cE]
 |succ i=>
  have A:i<a.length:=aa;have x:=z.getD i;have hi:(((i+1:Nat):Int)-1).toNat=i:=aa;have w:=IA e.1 g x;have v:=eU (r*18446744073709551616+a.getD i 0) e.1;have m:=jm (r*18446744073709551616+a.getD i 0) d;have n:=Bk r (a.getD i 0) d g x e.2;generalize(r*18446744073709551616+a.getD i 0)/d=q at w m n
  generalize(r*18446744073709551616+a.getD i 0)%d=C at v m n
  have E:(aL (aX (i+1) 0++b)).length=a.length:=by rw[eM];simp;omega
  simp(disch:=omega)only[go_sem,adq,s,t,h,u,l,df,gN,hi,dw];refine use n ?_;simp(disch:=omega)only[go_sem,adp,l,b3,hi,f,e9,kj,HP,aH];refine⟨i,aa,i,C,q::b,?_,?_,?_,?_,?_,rfl,aa,.mk w y,by simp;omega,v,?_,?_⟩
  iterate 4 simp only[go_sem,s,t,h]
  ·simp only[go_sem];congr 1;omega
  ·rw[W.uK A];exact Iz m o
  ·rw[af.aK,ak rfl]
theorem aqs{P z w V X Y:Nat}(c:X+P*h=V+Y*w)(b:z+18446744073709551616*u=a+L*w+h):X+P*z+P*18446744073709551616*u=V+P*a+(Y+P*L)*w:=by
 have e:=congrArg (P* ·) b;simp only[bD,←bT]at e;rw[cF];omega
theorem aqG(e a f g:List Nat)(w n:Nat)(X:W.aA a)(hx:W.aA g)(K:w<18446744073709551616)(Z:g.length=n)(a1:a.length=n)(ls:(e++a++f).length<1000000)(o b:Nat)(ho:e.length=o)(c:Cap)(H:af)(Q:H.get b=.cells (aL (e++a++f)) 0):
 c7 366 [.slice b o n c,bl g,ay (w:Int)] H fun v j=>∃ds k,v=ay ((k:Nat):Int)∧k<18446744073709551616∧ds.length=n∧W.aA ds∧W.val a+18446744073709551616^n*k=W.val ds+W.val g*w∧eH H j b (aL (e++ds++f)):=by
 refine aT alf ?_;simp(disch:=omega)only[go_sem,d366,adE,adD]
 refine bH (fun k F j=>∃(ds:List Nat) (h:Nat),k=n-ds.length∧ds.length≤n∧rd 0 F=.slice b o n c∧rd 1 F=bl g∧rd 2 F=ay (w:Int)∧rd 7 F=ay (h:Int)∧rd 14 F=bl g∧rd 15 F=ah (n:Int)∧rd 16 F=ah (ds.length:Int)∧h<18446744073709551616∧W.aA ds∧
  W.val (a.take ds.length)+18446744073709551616^ds.length*h=W.val ds+W.val (g.take ds.length)*w∧eH H j b (aL (e++ds++(a.drop ds.length++f)))) n ⟨[],0,rfl,bQ _,?_,?_,?_,?_,?_,?_,?_,aa,W.aA.nil,by simp[W.val],?_⟩ ?_
 iterate 3 simp only[go_sem]
 ·simp only[go_sem];rfl
 iterate 2 simp only[go_sem,Z]
 ·simp only[go_sem];rfl
 ·have:=eH.refl Q;simpa using this
 rintro k F j ⟨ds,h,rfl,hd,D,O,G,I,E,u,x,R,M,A,i⟩;rw[adB];simp only[aS]at ls;by_cases hi:ds.length<n
 ·have L:=hx.getD ds.length;have Y:=X.getD ds.length;have S:=ry (l:=a) (i:=ds.length) aa;rw[S,eS]at i;have T:=i.at;have q:(e++ds).length=o+ds.length:=by rw[aS,ho]
  have aw:o+ds.length<(aL (e++ds++a.getD ds.length 0::(a.drop (ds.length+1)++f))).length:=by rw[eM,aS,q];simp
  have a0:o+ds.length<(e++ds++a.getD ds.length 0::(a.drop (ds.length+1)++f)).length:=by rw[aS,q];simp
  have U:=qu (es:=a.drop (ds.length+1)++f) (e:=a.getD ds.length 0) q;have hp:=xS L K;obtain⟨p,C⟩:∃p,p=g.getD ds.length 0*w:=⟨_,rfl⟩;have J:=Ce _ _ L K;rw[←C]at hp J;obtain⟨d,N⟩:∃s,s=p%18446744073709551616+h:=⟨_,rfl⟩;obtain⟨B,l⟩:∃s,s=(a.getD ds.length 0+18446744073709551616-d%18446744073709551616-0)%18446744073709551616:=⟨_,rfl⟩;obtain⟨z,m⟩:∃z,z=(if d%18446744073709551616+0≤a.getD ds.length 0 then 0 else 1:Nat):=⟨_,rfl⟩;have P:=sub_one Y (show d%18446744073709551616<18446744073709551616 from eU _ ag) (bQ 1);rw[←l,←m]at P;have r:=u6 (a:=p%18446744073709551616) (b:=h) (c:=0) aa;rw[cE,←N]at r;have t:=CX (a:=a.getD ds.length 0) (b:=d%18446744073709551616) (c:=0) aa;rw[←l,←m]at t;have a2:z≤1:=by rw[m];split<;>omega
  have ad:B<18446744073709551616:=by rw[l];exact eU _ ag
  clear l m;have V:p/18446744073709551616+d/18446744073709551616+z<18446744073709551616:=aa;rw[jT]at r t;have w1:aC .u64 (((p/18446744073709551616:Nat):Int)+((d/18446744073709551616:Nat):Int))=((p/18446744073709551616+d/18446744073709551616:Nat):Int):=by rw[bW _ aa];omega
  have w2:aC .u64 (((p/18446744073709551616+d/18446744073709551616:Nat):Int)+((z:Nat):Int))=((p/18446744073709551616+d/18446744073709551616+z:Nat):Int):=by rw[bW _ aa];omega
  simp(disch:=omega)only[go_sem,MN,adA,G,E,u,x,dt,gN,bJ,dw];refine use J ?_;simp(disch:=omega)only[go_sem,adz,D,I,x,b3,bJ,T,dw,U,r,t,w1,w2,e9,kj,l9 q,aH];refine⟨n-(ds.length+1),aa,ds++[B],p/18446744073709551616+d/18446744073709551616+z,aB,by simp;omega,?_,?_,?_,?_,?_,?_,?_,V,M.app (.mk ad W.aA.nil),?_,?_⟩
  iterate 6 simp only[go_sem,D,O,G,E,u]
  ·simp only[go_sem,aS,gH];rfl
  ·rw[W.fF];simp only[aS,gH,cQ,W.val,fc,cE];rw[kM aa,kM aa];exact aqs A (by rw[←C];omega)
  ·have:=i.set (aL (e++(ds++[B])++(a.drop (ds.length+1)++f)));simpa using this
 ·have y:ds.length=n:=aa;simp(disch:=omega)only[go_sem,MN,adC,I,u,x,df];rw[y,b_ aa,b_ aa]at A;rw[y,jB aa,eI]at i;exact⟨ds,h,rfl,R,y,M,A,i⟩
theorem F4{b post:List Nat}(c:d.length=a)(e:b.length=u)(hi:h<u):(d++b++post).getD (a+h) 0=b.getD h 0:=by
 subst c e;simp only[bX];rw[eJ,q4 aa,Nat.add_sub_cancel_left,lJ hi]
theorem al3{P V:Nat}(b:V=h*(a*P)+(L+P*u)):V=(h*a+u)*P+L:=by
 rw[b,cF,bT h,bK P];omega
theorem al2(f:d.length=a+1)(c:2≤a):W.val d=((d.getD a 0*18446744073709551616+d.getD (a-1) 0)*18446744073709551616+d.getD (a-2) 0)*18446744073709551616^(a-2)+W.val (d.take (a-2)):=by
 have h:=W.vG (l:=d) (n:=a+1) aa aa (fun p b=>by
  rw[bX,kO aa];rfl)
 have e:=kM (l:=d) (i:=a-2) aa;rw[(aa:a-2+1=a-1)]at e;rw[(aa:a+1-1=a),(aa:a+1-2=a-1),e]at h;have b:(18446744073709551616:Nat)^(a-1)=18446744073709551616*18446744073709551616^(a-2):=by
  rw[(aa:a-1=a-2+1),cQ,bK]
 rw[b]at h;exact al3 h
theorem agE{e K w c d l W U V:Nat}(p:V=(u*K+L)*W+e)(o:U=((w*K+c)*K+d)*W+l)(r:e<W)(q:L<K)(m:K≤2*u+2)(j:u≤w)(i:h=K-1)(n:2≤K):(h-1)*V≤U:=by
 have g:V≤(u+1)*K*W:=by
  have a:u*K+L+1≤(u+1)*K:=by rw[cF,ga];omega
  have b:=dn W a;rw[cF (u*K+L),ga]at b;omega
 have f:u*K*K*W≤U:=by
  have a:u*K≤w*K+c:=cy (dn K j) (sq _ _);have b:u*K*K≤(w*K+c)*K+d:=cy (dn K a) (sq _ _);exact cy (dn W b) aa
 refine cy (fy _ g) (cy ?_ f);rw[←bT,←bT];refine dn W (dn K ?_);subst i;obtain⟨k,rfl⟩:∃k,K=k+2:=⟨K-2,aa⟩;rw[(aa:k+2-1-1=k),bD,bD,dF,bK k];omega
theorem agC{K w d e k W U V:Nat}(m:V=(h*K+u)*W+L)(l:U=((w*K+d)*K+e)*W+k)(f:U<V*K)(o:L<W)(n:u<K):w≤h:=by
 have i:V<(h+1)*(K*W):=by
  have a:h*K+u+1≤(h+1)*K:=by rw[cF,ga];omega
  have b:=dn W a;rw[cF (h*K+u),ga,bT]at b;omega
 have g:w*(K*W)*K≤U:=by
  have a:w*K≤w*K+d:=sq _ _;have b:w*K*K≤(w*K+d)*K+e:=cy (dn K a) (sq _ _);have c:=dn W b;rw[show w*(K*W)*K=w*K*K*W by ac_rfl];omega
 have j:w*(K*W)*K<(h+1)*(K*W)*K:=eY g (eG f (dn K (g8 i)));have:=tH (tH j);omega
theorem agB(O u m dv:List Nat)(n:Nat)(Y:W.aA u)(hd:W.aA dv)(hn:dv.length=n)(N:u.length=n+1)(h2:2≤n)(ls:(O++u++m).length<1000000)(dq:n<1000000)(dE:9223372036854775808≤dv.getD (n-1) 0)(hlt:W.val u<W.val dv*18446744073709551616)(o b:Nat)(T:O.length=o)(c:Cap)(H:af)(S:H.get b=.cells (aL (O++u++m)) 0):
 c7 365 [.slice b o (n+1) c,bl dv] H fun v z=>∃h,v=ay ((h:Nat):Int)∧h<18446744073709551616∧W.val u/W.val dv≤h∧(h-1)*W.val dv≤W.val u∧z=H:=by
 have B:=W.vG (l:=dv) (n:=n) h2 aa (fun p hp=>by rw[bX,kO aa];rfl);have j:=al2 N h2;have Z:W.val (dv.take (n-2))<18446744073709551616^(n-2):=by
  have:=W.gS (hd.take (n-2));rw[g6 aa]at this;exact this
 have bd:W.val (u.take (n-2))<18446744073709551616^(n-2):=by
  have:=W.gS (Y.take (n-2));rw[g6 aa]at this;exact this
 have b2:=hd.getD (n-1);have G:=hd.getD (n-2);have c1:=Y.getD n;have a1:=Y.getD (n-1);have b':=Y.getD (n-2);have dl:(O++u++m).length=o+(n+1)+m.length:=by rw[aS,aS,T,N]
 have gn:=F4 (post:=m) T N (aa:n<n+1);have BR:=F4 (post:=m) T N (aa:n-1<n+1);have a6:=F4 (post:=m) T N (aa:n-2<n+1);have i1:((n:Int)-1).toNat=n-1:=aa;have i2:((n:Int)-2).toNat=n-2:=aa;generalize O++u++m=L at*
 obtain⟨V,cb⟩:∃V,V=W.val dv:=⟨_,rfl⟩;obtain⟨U,ca⟩:∃V,V=W.val u:=⟨_,rfl⟩;rw[←cb]at B hlt⊢;rw[←ca]at j hlt⊢;generalize a9:dv.getD (n-1) 0=a at*
 generalize a':dv.getD (n-2) 0=s at*
 generalize W.val (dv.take (n-2))=d2 at*
 generalize W.val (u.take (n-2))=d1 at*
 generalize u.getD n 0=w at*
 generalize u.getD (n-1) 0=u1 at*
 generalize u.getD (n-2) 0=u2 at*
 generalize hW:18446744073709551616^(n-2)=c0 at*
 have hw:=agC B j hlt Z G;have db:0<V:=by
  rcases so V with e|e
  ·rw[e]at hlt;omega
  ·exact e
 have cp:U/V<18446744073709551616:=uU hlt;have ap:U/V*V≤U:=wM _ _;obtain⟨q,eq⟩:∃q,q=U/V:=⟨_,rfl⟩;rw[←eq]at cp ap⊢;refine aT ale ?_;by_cases K:a≤w
 ·simp(disch:=omega)only[go_sem,d365,MI,MM,ML,hn,aH,gN,b3,i1,i2,dw,bJ,S,gn,a9,a',df];exact⟨trivial,18446744073709551615,rfl,aa,aa,agE B j Z G aa K rfl aa,trivial⟩
 ·have be:w<a:=aa;simp(disch:=omega)only[go_sem,d365,MI,MM,ML,ady,hn,aH,gN,b3,i1,i2,dw,bJ,S,gn,BR,a9,a',dt];refine⟨trivial,?_⟩;refine use (Bk w u1 a be a1 b2) ?_;obtain⟨C,bc⟩:∃t,t=w*18446744073709551616+u1:=⟨_,rfl⟩;rw[←bc]at j⊢;have hl:=W.B2 B j bd b' aa ap;have hm:=eU C (aa:0<a);have a8:=jm C a;rw[bK]at a8;have ch:C/a<18446744073709551616:=by
   rw[bc];exact IA aa be a1
  simp(disch:=omega)only[go_sem,adx];refine bH (fun k y z=>∃r:Nat,rd 0 y=.slice b o (n+1) c∧rd 5 y=ah (n:Int)∧rd 6 y=ay (a:Int)∧rd 7 y=ay (s:Int)∧rd 8 y=ay (k:Int)∧rd 9 y=ay (r:Int)∧C=k*a+r∧q≤k∧r<18446744073709551616∧k<18446744073709551616∧z=H) (C/a) ⟨C%a,?_,?_,?_,?_,?_,?_,a8.symm,hl,aa,ch,rfl⟩ ?_
  iterate 6 simp only[go_sem]
  rintro h y z ⟨r,P,R,f6,D,i,E,ht,hq,hr,hh,rfl⟩;rw[adw];have F:=Ce h s hh G;have ci:=xS hh G;have aw:h*s≤r*18446744073709551616+u2→(h-1)*V≤U:=fun K=>W.B4 B j Z aa ht hh K
  have l:r*18446744073709551616+u2<h*s→q<h:=fun K=>W.B3 B j bd ap ht K
  have next:q<h→C=(h-1)*a+(r+a):=fun hlt=>by
   obtain⟨g,rfl⟩:∃g,h=g+1:=⟨h-1,aa⟩;rw[ht,cF,ga,qb];omega
  have bs:q<h→18446744073709551616≤r+a→(h-1-1)*V≤U:=fun hlt dk=>by
   refine W.B4 B j Z aa (next hlt) aa ?_
   have:=xS (x:=h-1) (y:=s) aa G;omega
  obtain⟨p,a2⟩:∃p,p=h*s:=⟨_,rfl⟩;rw[←a2]at F ci aw l;clear a2;have cs:q<h→aC .u64 ((h:Int)-1)=((h-1:Nat):Int):=fun hlt=>by rw[bW _ aa];omega
  have bv:r*18446744073709551616+u2<p→∀f:Fr,rd 0 f=.slice b o (n+1) c→rd 5 f=ah (n:Int)→rd 6 f=ay (a:Int)→rd 7 f=ay (s:Int)→rd 8 f=ay (h:Int)→rd 9 f=ay (r:Int)→
   ∀Q:X→Fr→af→Prop,(∀d,rd 4 d=ay ((h-1:Nat):Int)→18446744073709551616≤r+a→Q .ret d z)→(∀d,rd 0 d=.slice b o (n+1) c→rd 5 d=ah (n:Int)→rd 6 d=ay (a:Int)→rd 7 d=ay (s:Int)→rd 8 d=ay ((h-1:Nat):Int)→rd 9 d=ay ((r+a:Nat):Int)→r+a<18446744073709551616→Q .norm d z)→
   bx (pc 365 3) Q f z:=by
   intro hlt f I J A br eR cM Q ce cf;have b1:=cs (l hlt);by_cases M:18446744073709551616≤r+a
   ·have ws:aC .u64 ((r:Int)+(a:Int))=((r+a-18446744073709551616:Nat):Int):=by rw[hJ];omega
    simp(disch:=omega)only[go_sem,MK,MJ,MH,MG,A,eR,cM,b1,ws,dt];refine ce _ ?_ M;simp only[go_sem]
   ·have ws:aC .u64 ((r:Int)+(a:Int))=((r+a:Nat):Int):=by rw[bW _ aa];omega
    simp(disch:=omega)only[go_sem,MK,MJ,MH,MG,A,eR,cM,b1,ws,df];refine cf _ ?_ ?_ ?_ ?_ ?_ ?_ aa
    iterate 6 simp only[go_sem,I,J,A,br]
  have co:=jm p 18446744073709551616;obtain⟨ph,a3⟩:∃x,x=p/18446744073709551616:=⟨_,rfl⟩;obtain⟨pl,ad⟩:∃x,x=p%18446744073709551616:=⟨_,rfl⟩;rw[←a3,←ad]at co F;have du:pl<18446744073709551616:=by rw[ad];exact eU _ ag
  clear a3 ad;by_cases c2:ph<r
  ·simp(disch:=omega)only[go_sem,D,i];refine use F ?_;simp(disch:=omega)only[go_sem,Bh,i,E,dt];exact⟨h,rfl,hh,hq,aw aa,trivial⟩
  ·by_cases c':ph=r
   ·by_cases da:u2<pl
    ·simp(disch:=omega)only[go_sem,D,i];refine use F ?_;simp(disch:=omega)only[go_sem,Bh,P,R,E,dt,df,aH,b3,i2,S,dw,a6];refine bv aa _ ?_ ?_ ?_ ?_ ?_ ?_ _ ?_ ?_
     iterate 6 simp only[go_sem,P,R,f6,D,i,E]
     ·intro d g4 M;simp only[go_sem,g4];exact⟨h-1,rfl,aa,by have:=l aa;omega,bs (l aa) M,trivial⟩
     ·intro d I J A br eR cM am;simp only[go_sem];have F8:=l aa;exact⟨h-1,aa,r+a,I,J,A,br,eR,cM,next F8,aa,am,aa,rfl⟩
    ·simp(disch:=omega)only[go_sem,D,i];refine use F ?_;simp(disch:=omega)only[go_sem,Bh,P,R,i,E,dt,df,aH,b3,i2,S,dw,a6];exact⟨h,rfl,hh,hq,aw aa,trivial⟩
   ·simp(disch:=omega)only[go_sem,D,i];refine use F ?_;simp(disch:=omega)only[go_sem,Bh,E,df];refine bv aa _ ?_ ?_ ?_ ?_ ?_ ?_ _ ?_ ?_
    iterate 6 simp only[go_sem,P,R,f6,D,i,E]
    ·intro d g4 M;simp only[go_sem,g4];exact⟨h-1,rfl,aa,by have:=l aa;omega,bs (l aa) M,trivial⟩
    ·intro d I J A br eR cM am;simp only[go_sem];have F8:=l aa;exact⟨h-1,aa,r+a,I,J,A,br,eR,cM,next F8,aa,am,aa,rfl⟩
theorem Nw{P ds V U:Nat}(d:U=a+P*h)(f:a+P*u=ds+V*L)(e:ds<P)(c:h<u):U<L*V:=by
 have b:P*(h+1)≤P*u:=fy _ c;rw[bD,dF]at b;rw[bK L];omega
theorem aga{P ds V U b c:Nat}(m:U=a+P*h)(k:a+P*u=ds+V*L)(s:ds<P)(t:h<u)(o:b+P*c=ds+V)(z:b<P)(p:c≤1)(y:V≤P)(n:0<V)(i:(L-1)*V≤U):u=h+1∧c=1∧L-1=U/V∧b=U%V:=by
 have f:=Nw m k s t;have hh:0<L:=by
  rcases so L with e|e
  ·rw[e,jb]at f;omega
  ·exact e
 obtain⟨g,rfl⟩:∃g,L=g+1:=⟨L-1,aa⟩;rw[qb]at i⊢;have j:U/V=g:=Nat.div_eq_of_lt_le i f;have v:=jm U V;have A:=eU U n;rw[j]at v;rw[bD,dF]at k;obtain⟨d,rfl⟩:∃d,u=h+1+d:=⟨u-h-1,aa⟩;have l:P*(h+1+d)=P*h+P+P*d:=by rw[bD,bD,dF]
 have r:d=0:=by
  rcases so d with e|e
  ·exact e
  ·have w:P*1≤P*d:=fy _ e;have x:P*c≤P*1:=fy _ p;omega
 subst r;rw[fc]at l;have q:c=1:=by
  rcases so c with e|e
  ·rw[e,fc]at o;omega
  ·omega
 subst q;exact⟨rfl,rfl,j.symm,aa⟩
theorem agc{P ds V U:Nat}(f:U=a+P*h)(n:a+P*u=ds+V*L)(l:u≤h)(k:V≤P)(c:0<V)(j:U/V≤L):h=u∧L=U/V∧ds=U%V:=by
 obtain⟨d,rfl⟩:∃d,h=u+d:=⟨h-u,aa⟩;rw[bD]at f;have hh:L*V≤U:=by rw[bK];omega
 have b:L=U/V:=Nat.le_antisymm ((tG c).2 hh) j;have i:=jm U V;have m:=eU U c;rw[←b]at i;have g:d=0:=by
  rcases so d with e|e
  ·exact e
  ·have b:P*1≤P*d:=fy _ e;omega
 subst g;exact⟨rfl,b,aa⟩
theorem Tx(d a e dv:List Nat)(n:Nat)(Z:W.aA a)(S:W.aA dv)(aw:a.length=n)(hn:dv.length=n)(ls:(d++a++e).length<1000000)(o b C:Nat)(ho:d.length=o)(Y:(d++a++e).length=C)(c:Cap)(F:Fr)(H:af)(R:X→Fr→af→Prop)(P:H.get b=.cells (aL (d++a++e)) 0)
 (G:rd 11 F=.slice b 0 C c) (L:rd 13 F=ah (o:Int)) (M:rd 17 F=ay 0) (I:rd 113 F=bl dv) (J:rd 114 F=ah (n:Int)) (K:rd 115 F=ah 0)
 (Q:∀m v i k,(∀t,t<17→rd t m=rd t F)→rd 17 m=ay ((k:Nat):Int)→k≤1→i.length=n→W.aA i→W.val i+18446744073709551616^n*k=W.val a+W.val dv→eH H v b (aL (d++i++e))→R (.exit 3) m v):bx (.loop (pc 310 3)) R F H:=by
 refine bH (fun k f w=>∃(ds:List Nat) (g:Nat),k=n-ds.length∧ds.length≤n∧(∀t,t<17→rd t f=rd t F)∧rd 17 f=ay (g:Int)∧rd 113 f=bl dv∧rd 114 f=ah (n:Int)∧rd 115 f=ah (ds.length:Int)∧g≤1∧W.aA ds∧
  W.val ds+18446744073709551616^ds.length*g=W.val (a.take ds.length)+W.val (dv.take ds.length)∧eH H w b (aL (d++ds++(a.drop ds.length++e)))) n ⟨[],0,rfl,bQ _,fun _ _=>rfl,M,I,J,K,aa,W.aA.nil,by simp[W.val],by simpa using eH.refl P⟩ ?_
 rintro k f w ⟨ds,g,rfl,al,j,A,y,p,z,B,D,u,h⟩;have N:=(j 11 ag).trans G;have O:=(j 13 ag).trans L;rw[ab6];simp only[aS]at ls Y;by_cases hi:ds.length<n
 ·have a1:=S.getD ds.length;have ar:=Z.getD ds.length;have T:=ry (l:=a) (i:=ds.length) aa;rw[T,eS]at h;have U:=h.at;have l:(d++ds).length=o+ds.length:=by rw[aS,ho]
  have am:o+ds.length<(aL (d++ds++a.getD ds.length 0::(a.drop (ds.length+1)++e))).length:=by rw[eM,aS,l];simp
  have ap:o+ds.length<(d++ds++a.getD ds.length 0::(a.drop (ds.length+1)++e)).length:=by rw[aS,l];simp
  have V:=qu (es:=a.drop (ds.length+1)++e) (e:=a.getD ds.length 0) l;have ac:((o:Int)+(ds.length:Int)).toNat=o+ds.length:=aa;have ad:aC .i64 ((o:Int)+(ds.length:Int))=(o:Int)+(ds.length:Int):=aH _ aa;obtain⟨s,E⟩:∃s,s=a.getD ds.length 0+dv.getD ds.length 0+g:=⟨_,rfl⟩;have x:=u6 (a:=a.getD ds.length 0) (b:=dv.getD ds.length 0) B;rw[←E]at x;simp(disch:=omega)only[go_sem,Mj,ab5,ab4,N,O,A,y,p,z,dt,gN,bJ,dw,b3,ac,ad,U,V,x,e9,kj,l9 l,aH];refine⟨n-(ds.length+1),aa,ds++[s%18446744073709551616],s/18446744073709551616,aB,by simp;omega,fun t r=>?_,?_,?_,?_,?_,aa,D.app (.mk aa W.aA.nil),?_,?_⟩
  ·simp(disch:=omega)only[bV];exact j t r
  iterate 3 simp only[go_sem,y,p]
  ·simp only[go_sem,aS,gH];rfl
  ·rw[W.fF];simp only[aS,gH,cQ,W.val,fc,cE];rw[kM aa,kM aa];exact Eg u aa
  ·have:=h.set (aL (d++(ds++[s%18446744073709551616])++(a.drop (ds.length+1)++e)));simpa using this
 ·have q:ds.length=n:=aa;simp(disch:=omega)only[go_sem,Mj,p,z,df];rw[q,b_ aa,b_ aa]at u;rw[q,jB aa,eI]at h;refine Q _ _ ds g (fun t r=>?_) ?_ B q D u h
  ·simp(disch:=omega)only[bV];exact j t r
  ·simp only[go_sem,A]
theorem arZ{V:Nat}(c:a<18446744073709551616)(b:h<V):a+18446744073709551616*h<V*18446744073709551616:=by
 have:=dn 18446744073709551616 (show h+1≤V from b);rw[cF]at this;omega
theorem Nq{Q V X:Nat}(c:V*u+L=a+18446744073709551616*h)(b:Q*V+h=X):(u+18446744073709551616*Q)*V+L=a+18446744073709551616*X:=by
 rw[←b,cF,bT,bD,bK u];omega
set_option maxHeartbeats 2000000 in
theorem Fv(d dv:List Nat)(n a m:Nat)(co:W.aA d)(T:W.aA dv)(hX:d.length=a+1)(G:dv.length=n)(h2:2≤n)(hm:a+1-n=m)(fv:n≤a)(hl:a<900000)(e1:9223372036854775808≤dv.getD (n-1) 0)(f j:Nat)(hb:f≠j)(F:Fr)(H:af)(R:X→Fr→af→Prop)
 (dd:rd 8 F=ah (n:Int)) (c2:rd 10 F=bl dv) (c':rd 11 F=.slice f 0 (a+1) (.known (a+1))) (da:rd 12 F=.slice j 0 m (.known m)) (db:rd 13 F=ah ((m:Int)-1)) (d4:W.val (d.drop m)<W.val dv) (d0:H.get f=.cells (aL d) 0) (d1:H.get j=.cells (aL (aX m 0)) 0)
 (hR:∀F' K r b,(∀t,t<13→rd t F'=rd t F)→r.length=n→W.aA r→W.aA b→b.length=m→W.val b*W.val dv+W.val r=W.val d→W.val r<W.val dv→K.get f=.cells (aL (r++aX m 0)) 0→K.get j=.cells (aL b) 0→K.next=H.next→R (.exit 1) F' K):bx (.loop (pc 310 6)) R F H:=by
 have bs:W.val dv<18446744073709551616^n:=by have:=W.gS T;rw[G]at this;exact this
 have P:0<W.val dv:=aa
 refine bH (fun k V L=>∃(r b:List Nat),k≤m∧(∀t,t<13→rd t V=rd t F)∧rd 13 V=ah ((k:Int)-1)∧r.length=n∧W.aA r∧W.aA b∧b.length=m-k∧W.val b*W.val dv+W.val r=W.val (d.drop k)∧W.val r<W.val dv∧L.get f=.cells (aL (d.take k++r++aX (m-k) 0)) 0∧L.get j=.cells (aL (aX k 0++b)) 0∧L.next=H.next) m
  ⟨d.drop m,[],aE _,fun _ _=>rfl,db,by rw[gZ];omega,co.drop _,W.aA.nil,aB,by simp[W.val],d4,by rw[m6,p8,fG,p9];exact d0,by rw[fG];exact d1,rfl⟩ ?_
 rintro k V L ⟨r,b,hk,q,o,hr,c0,a',ev,hv,cf,l,S,cb⟩;have C:=(q 8 ag).trans dd;have Z:=(q 10 ag).trans c2;have v:=(q 11 ag).trans c';have bj:=(q 12 ag).trans da;rw[ab8];cases k with
 |zero=>
  simp(disch:=omega)only[go_sem,o];rw[q6,eI,Nat.sub_zero]at l;rw[p8,eI]at S;refine hR _ _ r b (fun t s=>?_) hr c0 a' ev hv cf l S cb;simp(disch:=omega)only[bV];exact q t s
 |succ i=>
  have ca:i<d.length:=aa;have a3:List.take (i+1) d=d.take i++[d.getD i 0]:=wh ca;have hx:=co.getD i;have am:=W.uK ca;obtain⟨x,ex⟩:∃x,x=d.getD i 0:=⟨_,rfl⟩;rw[←ex]at a3 hx am;have y:(d.take i).length=i:=g6 aa;obtain⟨g,Y⟩:∃p,p=d.take i:=⟨_,rfl⟩;rw[←Y]at a3 y;obtain⟨z,dl⟩:∃z,z=m-(i+1):=⟨_,rfl⟩;rw[←dl]at l;have bo:W.val (x::r)<W.val dv*18446744073709551616:=arZ hx cf;have U:W.aA (x::r):=.mk hx c0;have ch:(x::r).length=n+1:=by simp[hr]
  have ed:g++[x]++r++aX z 0=g++(x::r)++aX z 0:=aB;rw[a3,ed]at l;have ac:W.val (x::r)=x+18446744073709551616*W.val r:=rfl;obtain⟨u,dk⟩:∃u,u=x::r:=⟨_,rfl⟩;rw[←dk]at l bo U ch ac;have a2:u=u.take n++[u.getD n 0]:=by
   rw[←wh aa,b_ aa]
  have cs:=U.take n;have a0:(u.take n).length=n:=g6 aa;have s:=U.getD n;obtain⟨a8,em⟩:∃p,p=u.take n:=⟨_,rfl⟩;obtain⟨t,et⟩:∃p,p=u.getD n 0:=⟨_,rfl⟩;rw[←em,←et]at a2;rw[←em]at cs a0;rw[←et]at s;have ab:W.val u=W.val a8+18446744073709551616^n*t:=by
   rw[a2,W.fF,a0];simp[W.val]
  have eh:g++u++aX z 0=g++a8++t::aX z 0:=by rw[a2];simp
  have d9:(((i+1:Nat):Int)-1)=(i:Int):=aa;rw[d9]at o;have J:aC .i64 ((i:Int)+(n:Int))=(i:Int)+(n:Int):=aH _ aa;have e':aC .i64 ((i:Int)+(n:Int)+1)=(i:Int)+(n:Int)+1:=aH _ aa;have eQ:slice3 (j7 1) true true false [.slice f 0 (a+1) (.known (a+1)),ah (i:Int),ah ((i:Int)+(n:Int)+1)]=some (.val (.slice f i (n+1) (.known (a+1-i)))):=by
   rw[CO aa];congr 3<;>omega
  have e0:slice3 (j7 1) true true false [.slice f 0 (a+1) (.known (a+1)),ah (i:Int),ah ((i:Int)+(n:Int))]=some (.val (.slice f i n (.known (a+1-i)))):=by
   rw[CO aa];congr 3<;>omega
  simp(disch:=omega)only[go_sem,ab7,C,Z,v,o,df,J,e',eQ];refine(agB g u (aX z 0) dv n U T G ch h2 (by simp;omega) aa e1 bo i f y _ _ l).mono ?_;rintro _ _ ⟨h,rfl,b',es,d8,rfl⟩;simp(disch:=omega)only[go_sem,C,Z,v,o,J,e0];rw[eh]at l;refine(aqG g a8 (t::aX z 0) dv h n cs T b' G a0 (by simp;omega) i f y _ _ l).mono ?_;rintro _ H2 ⟨ds,k,rfl,fn,Q,a9,a6,N⟩;have bv:W.val ds<18446744073709551616^n:=by have:=W.gS a9;rw[Q]at this;exact this
  have ar:=N.at;have aw:H2.get j=.cells (aL (aX (i+1) 0++b)) 0:=by rw[N.get,aj (fun e=>hb e.symm)];exact S
  have cd:H2.next=H.next:=N.next.trans cb
  clear N S l;have D:(g++ds).length=i+n:=by rw[aS,y,Q]
  have fp:i+n<(aL (g++ds++t::aX z 0)).length:=by rw[eM,aS,D];simp
  have fr:i+n<(g++ds++t::aX z 0).length:=by rw[aS,D];simp
  have b1:=qu (es:=aX z 0) (e:=t) D;have a4:((i:Int)+(n:Int)).toNat=i+n:=aa;have fw:(aL (aX (i+1) 0++b)).length=m:=by rw[eM];simp;omega
  have ae:j≠f:=fun e=>hb e.symm
  have ci:m-i=z+1:=aa;by_cases hc:t<k
  ·have wt:aC .u64 ((t:Int)-(k:Int))=((t+18446744073709551616-k:Nat):Int):=by rw[hJ];omega
   have fs:((t:Nat):Int)<(k:Int):=aa;have d3:=Nw ab a6 bv hc;have fg:0<h:=by
    rcases so h with e|e
    ·rw[e,jb]at d3;omega
    ·exact e
   have fa:aC .u64 ((h:Int)-1)=((h-1:Nat):Int):=by rw[bW _ aa];omega
   simp(disch:=omega)only[go_sem,C,Z,v,o,J,a4,ar,b1,dw,b3,wt,e9,kj,l9 D,dt,fa];refine Tx g ds ((t+18446744073709551616-k)::aX z 0) dv n a9 T Q G (by simp;omega) i f (a+1) y (by simp;omega) (.known (a+1)) _ _ _ ?_ ?_ ?_ ?_ ?_ ?_ ?_ ?_
   ·rw[af.aK,ak rfl]
   iterate 6 simp only[go_sem,v,o,G]
   intro A H3 B c w ahx d5 ap cp e2 O;have d6:W.val B<18446744073709551616^n:=by have:=W.gS cp;rw[ap]at this;exact this
   obtain⟨d',fd,hq,I⟩:=aga ab a6 bv hc e2 d6 d5 (g8 bs) P d8;have b0:=O.at;have d7:H3.get j=.cells (aL (aX (i+1) 0++b)) 0:=by rw[O.get,aj ae,af.aK,aj hb];exact aw
   have el:H3.next=H.next:=O.next.trans cd
   clear O ar aw;have h8:rd 8 A=ah (n:Int):=(w 8 ag).trans (by simp only[go_sem,C]);have dp:rd 11 A=.slice f 0 (a+1) (.known (a+1)):=(w 11 ag).trans (by simp only[go_sem,v]);have dq:rd 12 A=.slice j 0 m (.known m):=(w 12 ag).trans (by simp only[go_sem,bj]);have du:rd 13 A=ah (i:Int):=(w 13 ag).trans (by simp only[go_sem,o]);have dC:rd 14 A=ay ((h-1:Nat):Int):=(w 14 ag).trans (by simp only[go_sem]);have M:(g++B).length=i+n:=by rw[aS,y,ap]
   have ea:i+n<(aL (g++B++(t+18446744073709551616-k)::aX z 0)).length:=by rw[eM,aS,M];simp
   have eb:i+n<(g++B++(t+18446744073709551616-k)::aX z 0).length:=by rw[aS,M];simp
   have b2:=qu (es:=aX z 0) (e:=t+18446744073709551616-k) M;have c1:aC .u64 (((t+18446744073709551616-k:Nat):Int)+(c:Int))=((0:Nat):Int):=by rw[hJ];omega
   have eq:h-1<18446744073709551616:=aa;rw[d']at b2 ea eb b0 c1;rw[fA];simp(disch:=omega)only[go_sem,Mk,h8,dp,dq,du,dC,ahx,J,a4,b0,d7,b2,dw,b3,c1,e9,kj,l9 M,aj,bJ,HP,aH];have E:=jm (W.val u) (W.val dv);rw[←hq,←I,ac]at E;refine⟨i,aa,B,(h-1)::b,aa,fun t s=>?_,?_,ap,cp,.mk eq a',by simp;omega,?_,by rw[I];exact eU _ P,?_,?_,el⟩
   ·simp(disch:=omega)only[bV];refine(w t aa).trans ?_;simp(disch:=omega)only[bV];exact q t s
   ·simp only[go_sem]
   ·rw[am,←hv];exact Nq E rfl
   ·rw[af.aK,aj ae,af.aK,ak rfl,Y,ci,p7]
   ·rw[af.aK,ak rfl]
  ·obtain⟨fx,hq,I⟩:=agc ab a6 (jC hc) (g8 bs) P es;have wt:aC .u64 ((t:Int)-(k:Int))=((0:Nat):Int):=by rw[hJ];omega
   simp(disch:=omega)only[go_sem,Mk,C,v,bj,o,J,a4,ar,aw,b1,dw,b3,wt,e9,kj,l9 D,df,aj,bJ,HP,aH];have E:=jm (W.val u) (W.val dv);rw[←hq,←I,ac]at E;refine⟨i,aa,ds,h::b,aa,fun t s=>?_,?_,Q,a9,.mk b' a',by simp;omega,?_,by rw[I];exact eU _ P,?_,?_,cd⟩
   ·simp(disch:=omega)only[bV];exact q t s
   ·simp only[go_sem]
   ·rw[am,←hv];exact Nq E rfl
   ·rw[af.aK,aj ae,af.aK,ak rfl,Y,ci,p7]
   ·rw[af.aK,ak rfl]
theorem mV(n:Nat)(c:n≠0):∃r,n=(aq n).getD ((aq n).length-1) 0*18446744073709551616^((aq n).length-1)+r∧r<18446744073709551616^((aq n).length-1):=by
 have hl:=(jd n).2 c;have h:=W.qV (l:=aq n) (i:=(aq n).length-1) aa;rw[gi]at h;have b:(aq n).drop ((aq n).length-1+1)=[]:=jB aa;rw[b]at h;have a:=W.gS ((gp n).take ((aq n).length-1));rw[g6 aa]at a;refine⟨_,?_,a⟩;simp only[W.val,fc,cE]at h;rw[bK _ (18446744073709551616^_),i_];exact h
theorem C2(n:Nat)(a:n≠0):(aq n).getD ((aq n).length-1) 0≠0:=by
 have hl:=(jd n).2 a;intro h;have d:=Bp n;have c:=W.aO.pos d (fun e=>by rw[e]at hl;exact absurd hl ag);rw[gi]at c;obtain⟨r,b,f⟩:=mV n a;rw[h,jb]at b;omega
theorem Cj(f:a≠0)(q:h≤63)(c:(aq a).getD ((aq a).length-1) 0*2^h<18446744073709551616):(aq (a*2^h)).length=(aq a).length:=by
 obtain⟨r,n,o⟩:=mV a f;have hl:=(jd a).2 f;have d:0<2^h:=fl ag;have p:=lP (m:=a) (n:=a*2^h) (Nat.le_mul_of_pos_right a d);have s:(aq (a*2^h)).length≤(aq a).length:=by
  refine vj ?_;generalize(aq a).getD ((aq a).length-1) 0=t at*
  have l:(18446744073709551616:Nat)^(aq a).length=18446744073709551616*18446744073709551616^((aq a).length-1):=by
   rw[(aa:(aq a).length=(aq a).length-1+1),cQ,bK,qb]
  rw[l];generalize(18446744073709551616:Nat)^((aq a).length-1)=P at*
  have b:=sZ (s:=h) aa;have m:t+1≤2^(64-h):=by
   rw[b]at c;exact tH c
  have g:(t+1)*2^h≤18446744073709551616:=by
   have e:=dn (2^h) m;rw[←b]at e;exact e
  have i:a<(t+1)*P:=by rw[cF,ga];omega
  have j:a*2^h<(t+1)*P*2^h:=od i d;have k:(t+1)*P*2^h≤18446744073709551616*P:=by
   rw[tJ];exact dn P g
  exact eG j k
 omega
theorem zO(c:h≠0)(k:u≤63)(g:9223372036854775808≤(aq h).getD ((aq h).length-1) 0*2^u)(f:(aq h).getD ((aq h).length-1) 0*2^u<18446744073709551616):9223372036854775808≤(aq (h*2^u)).getD ((aq h).length-1) 0:=by
 have hl:=Cj c k f;have o:0<2^u:=fl ag;have j:h*2^u≠0:=uX c aa;obtain⟨r,m,n⟩:=mV h c;obtain⟨p,d,e⟩:=mV (h*2^u) j;rw[hl]at d e;generalize(aq h).getD ((aq h).length-1) 0=t at*
 generalize(aq (h*2^u)).getD ((aq h).length-1) 0=l at*
 generalize(18446744073709551616:Nat)^((aq h).length-1)=P at*
 refine cy g (jC fun i=>?_);have a:(l+1)*P≤t*2^u*P:=dn P i;rw[cF,ga]at a;have b:t*P*2^u≤h*2^u:=dn _ aa;rw[tJ]at b;omega
theorem HY{X P V:Nat}(d:X<P*a*h)(e:X=u+P*L)(c:a*h≤V):L<V:=by
 have b:P*L<P*(a*h):=by rw[←bT];omega
 exact eG (Nat.lt_of_mul_lt_mul_left b) c
theorem afV(m n:Nat)(g:n≠0)(lm:(aq m).length<100000)(ln:(aq n).length<100000):aW 310 [bl (aq m),bl (aq n)] (.az [bl (aq (m/n)),bl (aq (m%n))]):=by
 refine fE (.cons (dr _) (.cons (dr _) .nil)) (aT Gj ?_);have a4:=(jd n).2 g;simp(disch:=omega)only[go_sem,d310,E7];refine use (ve m n aa aa) ?_;by_cases p:m<n
 ·rw[nQ aa];simp(disch:=omega)only[go_sem,dt];rw[m4 p,jV p,jY];exact⟨_,.az (.cons .fK (.cons (.same _) .nil)),.az (.cons (.row 0 .nil) (.cons (dr _) .nil)),rfl⟩
 have bv:¬fe (m:Int) (n:Int)<0:=by
  rcases Nat.lt_or_eq_of_le (jC p)with h|h
  ·rw[nP aa];decide
  ·rw[A3 aa];decide
 by_cases I:(aq n).length=1
 ·have a3:dJ none 1 [bl (aq n),ah 0]=some (.val (.cY (aL (aq n)) 0)):=gN ⟨ag,aa⟩;have R:(aq n).getD 0 0=n:=by
   obtain⟨r,F,G⟩:=mV n g;rw[I]at F G;simp only[m6,nK,dF]at F G;omega
  have z:=(gp n).getD 0;rw[R]at z;simp(disch:=omega)only[go_sem,df,dt,a3,dw,R];refine use (afX (aq m) n (gp m) ⟨aa,z⟩ aa) ?_;simp(disch:=omega)only[go_sem,gi];refine use (BL (m%n) (qe (eU _ aa) z)) ?_;simp(disch:=omega)only[go_sem];exact iA rfl (.az (.cons (dr _) (.cons (dr _) .nil)))
 have J:2≤(aq n).length:=aa;have y:(aq n).length≤(aq m).length:=lP (jC p);obtain⟨D,f⟩:∃t,t=(aq n).getD ((aq n).length-1) 0:=⟨_,rfl⟩;have U:=C2 n g;have B:=(gp n).getD ((aq n).length-1);rw[←f]at U B;obtain⟨e,N,v⟩:=zG (y:=D) U B;have Q:=zF D B;obtain⟨s,S⟩:∃s,s=64-eK D:=⟨_,rfl⟩;rw[←S]at e N v Q;clear S;have o:0<2^s:=fl ag;have w:=Cj g e (by rw[←f];exact v);have x:=zO g e (by rw[←f];exact N) (by rw[←f];exact v);have a1:aC .u64 ((s:Nat):Int)=(s:Int):=bW _ aa;have V:aC .i64 (((aq n).length:Int)-1)=((aq n).length:Int)-1:=aH _ aa;have T:(((aq n).length:Int)-1).toNat=(aq n).length-1:=aa;obtain⟨c,k⟩:∃l,l=(aq m).length:=⟨_,rfl⟩;obtain⟨l,H⟩:∃l,l=(aq n).length:=⟨_,rfl⟩;rw[←k]at y lm;rw[←H]at a4 ln I J y f w x V T;have K:(aq (m*2^s)).length≤c+1:=by
  refine vj ?_;have a:=nS m;rw[←k]at a;have b:2^s≤18446744073709551616:=by rw[sZ (s:=s) aa];exact Nat.le_mul_of_pos_left _ (fl ag)
  rw[cQ];exact eG (od a o) (fy _ b)
 simp(disch:=omega)only[go_sem,E6,E5,df,←H,V,gN,T,dw,←f];refine use Q ?_;simp(disch:=omega)only[go_sem,E4,a1];refine use (yb n s e aa) ?_;have bb:aC .i64 ((c:Int)+1)=(c:Int)+1:=aH _ aa;have ba:((c:Int)+1).toNat=c+1:=aa;simp(disch:=omega)only[go_sem,E3,E2,←k,bb,ir,ba,oJ];refine use (yb m s e aa) ?_;simp(disch:=omega)only[go_sem];refine Bv (cs:=aL (aX (c+1) 0)) (by simp only[go_sem]) K (by rw[eM];simp) ?_;obtain⟨d,i⟩:∃X,X=aq (m*2^s)++aX (c+1-(aq (m*2^s)).length) 0:=⟨_,rfl⟩;have L:aL (aq (m*2^s))++(aL (aX (c+1) 0)).drop (aq (m*2^s)).length=aL d:=by
  rw[i,yF];congr 1;rw[aL,←List.map_drop,List.drop_replicate];rfl
 have bj:W.aA d:=by rw[i];exact(gp _).app (uo _)
 have a0:d.length=c+1:=by rw[i];simp;omega
 have M:W.val d=m*2^s:=by rw[i,W.fF,tj,gi,fc,cE]
 rw[L];clear L i K;obtain⟨j,ad⟩:∃j,c+1-l=j:=⟨_,rfl⟩;have bc:aC .i64 ((c:Int)-(l:Int))=(j:Int)-1:=by rw[aH _ aa];omega
 have bd:aC .i64 ((j:Int)-1+1)=(j:Int):=by rw[aH _ aa];omega
 simp(disch:=omega)only[go_sem,E_,E9,←k,bc,bd,ir,oJ,bJ];have ar:W.val (d.drop j)<W.val (aq (n*2^s)):=by
  have Y:=W.pV d j aa;rw[M]at Y;have a:=nS m;rw[←k,(aa:c=j+(l-1)),gw]at a;have b:=od a o;obtain⟨r,E,_⟩:=mV (n*2^s) (uX g aa);rw[w]at E;refine HY b Y ?_;rw[gi,E];have am:2^s≤9223372036854775808:=cy (gl ag e) ag;have c2:=dn (18446744073709551616^(l-1)) (cy am x);rw[bK];exact cy c2 (sq _ _)
 refine Fv d (aq (n*2^s)) l c j bj (gp _) a0 w J ad y aa x 5 6 ag _ _ _ ?_ ?_ ?_ ?_ ?_ ar ?_ ?_ ?_
 iterate 7 simp only[go_sem]
 intro q H3 r Z u hr bs bo a7 C A a2 O b0;have h9:rd 9 q=ay (s:Int):=(u 9 ag).trans (by simp only[go_sem]);have ae:rd 11 q=.slice 5 0 (c+1) (.known (c+1)):=(u 11 ag).trans (by simp only[go_sem]);have al:rd 12 q=.slice 6 0 j (.known j):=(u 12 ag).trans (by simp only[go_sem]);rw[fA];rw[M,gi]at C;rw[gi]at A;have aw:0<n*2^s:=Nat.mul_pos aa o;have hq:W.val Z=m/n:=by
  rw[←Nat.mul_div_mul_right m n o,←C,bK,Nat.mul_add_div aw,m4 A,cE]
 have a9:W.val r=m%n*2^s:=by
  rw[←su,←C,bK,Nat.mul_add_mod,jV A]
 simp(disch:=omega)only[go_sem,E8,al];refine jk (qT Z aa) O ⟨0,_,_,dj.2 rfl⟩ (.cons (qs O (by rw[af.aK,ak rfl]) a7) .nil) ?_;simp(disch:=omega)only[go_sem,ae];have P:(H3.set 6 .none).get 5=.cells (aL (r++aX j 0)) 0:=by rw[af.aK,aj ag];exact a2
 have a5:(r++aX j 0).length=c+1:=by simp;omega
 refine jk (qT (r++aX j 0) aa) P ⟨0,_,_,dj.2 rfl⟩ (.cons (qs P (by rw[af.aK,ak rfl]) a5) .nil) ?_;have a':W.trim (r++aX j 0)=aq (m%n*2^s):=by
  rw[l_ (bs.app (uo _)),W.fF,tj,fc,cE,a9]
 rw[a',l_ bo,hq];have a8:(aq (m%n*2^s)).length<100000:=by
  have:=lP (m:=m%n*2^s) (n:=n*2^s) (dn _ (g8 (eU _ aa)));omega
 simp(disch:=omega)only[go_sem,h9];refine use (apY (m%n*2^s) s e a8) ?_;rw[uW _ o];simp(disch:=omega)only[go_sem];exact iA rfl (.az (.cons (dr _) (.cons (dr _) .nil)))
theorem afY(m n:Nat)(a:n≠0)(b:(aq m).length<80)(c:(aq n).length<80):aW 250 [bl (aq m),bl (aq n)] (.az [bl (aq (m/n)),bl (aq (m%n))]):=by
 refine cO (.cons (dr _) (.cons (dr _) .nil)) (.az (.cons (dr _) (.cons (dr _) .nil))) (aT Gh ?_);simp(disch:=omega)only[go_sem,d250,EN,EM,dt];refine use (afV m n a aa aa) ?_;simp only[go_sem]
theorem C4(l:List Nat):∃a,W.trim l++a=l:=by
 rw[C5 l];exact⟨l.drop (W.trim l).length,p9 _ _⟩
theorem apZ(n s:Nat)(G:s≤63)(D:n≠0)(ln:(aq n).length<100000)(N:Nat):c7 363 [bl (aq n),ay (s:Int)] (af.zero N) fun v d=>∃A c,v=.slice N 0 (aq (n/2^s)).length c∧N<d.next∧d.get N=.cells (aL (aq (n/2^s)++A)) 0:=by
 refine aT Gk ?_;have o:=gp n;have J:=gi n;have a5:¬(64:Int)=0:=ag;have a0:mg (s:Int) 64=0:=by
  show(((s/64:Nat)):Int)=0;omega
 have a1:m3 (s:Int) 64=(s:Int):=by
  show(((s%64:Nat)):Int)=_;omega
 have w0:aC .u64 (0:Int)=0:=bW _ ag;have w1:aC .i64 (0:Int)=0:=aH _ ag;have wl:aC .u64 (((aq n).length:Nat):Int)=(((aq n).length:Nat):Int):=bW _ aa;have M:=(jd n).2 D;clear D;have ht:((((aq n).length:Nat):Int)-0).toNat=(aq n).length:=aa;simp(disch:=omega)only[go_sem,d363,Bg,MF,ME,MD,dt,jG,mB,a0,a1,w0,w1,wl,aH,Int.sub_zero,bJ,ir,oJ];generalize aq n=x at o J M ln⊢
 obtain⟨y,h⟩:∃y,y=W.shr s x:=⟨_,rfl⟩;have am:y.length=x.length:=by rw[h,W.ta]
 have ar:W.val y=n/2^s:=by rw[h,W.yd G,J]
 have ap:W.aA y:=by rw[h];exact W.v5 G o
 have al:∀i,i<x.length→y.getD i 0=x.getD i 0/2^s+(x.getD (i+1) 0%2^s)*2^(64-s):=fun i hi=>by rw[h];exact W.yc hi
 clear h;have E:dU s (gK .u64)=s:=kZ (aa:s≤64);have X:dU (64-s) (gK .u64)=64-s:=kZ (aa:64-s≤64);have P:aC .u64 ((64:Int)-(s:Int))=((64-s:Nat):Int):=by rw[bW _ aa];omega
 refine bH (fun k a d=>∃i:Nat,k=x.length-i∧i≤x.length∧rd 0 a=bl x∧rd 5 a=ah 0∧rd 6 a=ay (s:Int)∧rd 7 a=.slice N 0 x.length (.known x.length)∧rd 26 a=ah (x.length:Int)∧rd 27 a=ah (i:Int)∧
  eH ((af.zero N).push (.cells (aL (aX x.length 0)) 0)) d N (aL (y.take i++aX (x.length-i) 0))) x.length ⟨0,rfl,bQ _,?_,?_,?_,?_,?_,?_,eH.refl ?_⟩ ?_
 iterate 5 simp only[go_sem]
 ·simp only[go_sem];rfl
 ·simp only[go_sem];rfl
 rintro k a d ⟨i,rfl,hi,j,l,m,f,e,q,b⟩;rw[MB];by_cases U:i<x.length
 ·have L:=o.getD i;have ba:=o.getD (i+1);obtain⟨r,hr⟩:∃r,x.length-i=r+1:=⟨x.length-i-1,aa⟩;rw[hr,p7 (n:=r)]at b;have hl:(y.take i).length=i:=g6 aa;have a7:i<(aL (y.take i++0::aX r 0)).length:=by rw[eM,aS,hl];simp
  have g:=b.at;have H:=fun v=>l9 (es:=aX r 0) (e:=0) (v:=v) hl
  have t:=b.set (aL (y.take i++(x.getD i 0/2^s)::aX r 0));have p:=al i U;have B:=Fw (s:=s) aa L;have S:((i:Int)+1).toNat=i+1:=aa;by_cases a6:i+1<x.length
  ·have z:=RC (e:=x.getD (i+1) 0) (s:=s) aa;have w:=G1 (x:=x.getD (i+1) 0) (s:=64-s) aa B;have V:=DN (x:=x.getD (i+1) 0) (s:=64-s) aa B;rw[z,←p]at w V;have Z:((x.getD (i+1) 0:Nat):Int)*((2^(64-s):Nat):Int)=((x.getD (i+1) 0*2^(64-s):Nat):Int):=by rw[fU]
   have K:aC .u64 ((x.getD (i+1) 0*2^(64-s):Nat):Int)=(((x.getD (i+1) 0%2^s)*2^(64-s):Nat):Int):=by
    rw[hJ,←z,Int.natCast_emod];rfl
   have C:(x.getD (i+1) 0%2^s)*2^(64-s)<18446744073709551616:=by rw[←z];exact eU _ ag
   have Q:x.getD i 0/2^s<18446744073709551616:=eY (jn _ _) L;have a8:i<(aL (y.take i++(x.getD i 0/2^s)::aX r 0)).length:=by rw[eM,aS,hl];simp
   have a9:i<(y.take i++(x.getD i 0/2^s)::aX r 0).length:=by rw[aS,hl];simp
   have R:=qu (es:=aX r 0) (e:=x.getD i 0/2^s) hl;have ad:=l9 (es:=aX r 0) (e:=x.getD i 0/2^s) (v:=y.getD i 0) hl;generalize(x.getD (i+1) 0%2^s)*2^(64-s)=u at w K C
   have F:=xU ⟨Q,C⟩;rw[w]at F;simp(disch:=omega)only[go_sem,xk,Bf,Be,j,l,m,f,e,q,dt,gN,b3,bJ,S,dw,aH,Int.add_zero,E,X,P,Z,K,mS,g,R,F,e9,kj,H,ad];refine⟨r,aa,i+1,aa,aa,?_,?_,?_,?_,?_,?_,?_⟩
   iterate 5 simp only[go_sem,j,l,m,f,e]
   ·simp only[go_sem];rfl
   ·have O:=t.set (aL (y.take i++y.getD i 0::aX r 0));rw[(aa:x.length-(i+1)=r),wh aa,eJ];exact O
  ·have ae:x.getD (i+1) 0=0:=by rw[bX,kO aa];rfl
   rw[ae,Nat.zero_mod,jb,cE]at p;rw[←p]at t;simp(disch:=omega)only[go_sem,xk,Bf,Be,j,l,m,f,e,q,dt,df,gN,b3,bJ,dw,aH,Int.add_zero,E,mS,g,e9,kj,H,←p];refine⟨r,aa,i+1,aa,aa,?_,?_,?_,?_,?_,?_,?_⟩
   iterate 5 simp only[go_sem,j,l,m,f,e]
   ·simp only[go_sem];rfl
   ·rw[(aa:x.length-(i+1)=r),wh aa,eJ];exact t
 ·have T:i=x.length:=aa;simp(disch:=omega)only[go_sem,xk,MC,f,e,q,df];rw[T,m6,p8,fG,b_ aa]at b;have g:=b.at;have Y:=b.next
  rw[←am];refine(aq9 y [] N y.length aa aa _ (by rw[fG];exact g)).mono ?_;rintro _ _ ⟨rfl,rfl⟩;simp only[go_sem];have I:=C4 y;rw[l_ ap,ar]at I⊢;obtain⟨A,ac⟩:=I;refine⟨A,_,rfl,?_,?_⟩
  ·rw[Y];exact mm N
  ·rw[g,←ac]
theorem afW(m n:Nat)(w:n≠0)(Q:2≤(aq n).length)(Z:¬m<n)(bv:m%n≠0)(lm:(aq m).length<100000)(ln:(aq n).length<100000)(N:Nat):c7 310 [bl (aq m),bl (aq n)] (af.zero N) fun v K=>∃q b i c,v=.az [q,.slice b 0 (aq (m%n)).length c]∧N≤b∧b<K.next∧K.get b=.cells (aL (aq (m%n)++i)) 0:=by
 refine aT Gj ?_;have h1:(aq n).length≠1:=aa;have bd:=(jd n).2 w;simp(disch:=omega)only[go_sem,d310,E7];refine use (ve m n aa aa) ?_;have cp:¬fe (m:Int) (n:Int)<0:=by
  rcases Nat.lt_or_eq_of_le (jC Z)with h|h
  ·rw[nP aa];decide
  ·rw[A3 aa];decide
 have F:(aq n).length≤(aq m).length:=lP (jC Z);obtain⟨J,k⟩:∃t,t=(aq n).getD ((aq n).length-1) 0:=⟨_,rfl⟩;have ae:=C2 n w;have H:=(gp n).getD ((aq n).length-1);rw[←k]at ae H;obtain⟨g,U,C⟩:=zG (y:=J) ae H;have ab:=zF J H;obtain⟨s,hs⟩:∃s,s=64-eK J:=⟨_,rfl⟩;rw[←hs]at g U C ab;clear hs;have u:0<2^s:=fl ag;have D:=Cj w g (by rw[←k];exact C);have E:=zO w g (by rw[←k];exact U) (by rw[←k];exact C);have bb:aC .u64 ((s:Nat):Int)=(s:Int):=bW _ aa;have al:aC .i64 (((aq n).length:Int)-1)=((aq n).length:Int)-1:=aH _ aa;have ad:(((aq n).length:Int)-1).toNat=(aq n).length-1:=aa;obtain⟨e,p⟩:∃l,l=(aq m).length:=⟨_,rfl⟩;obtain⟨l,P⟩:∃l,l=(aq n).length:=⟨_,rfl⟩;rw[←p]at F lm;rw[←P]at bd ln h1 Q F k D E al ad;have R:(aq (m*2^s)).length≤e+1:=by
  refine vj ?_;have a:=nS m;rw[←p]at a;have b:2^s≤18446744073709551616:=by rw[sZ (s:=s) aa];exact Nat.le_mul_of_pos_left _ (fl ag)
  rw[cQ];exact eG (od a u) (fy _ b)
 simp(disch:=omega)only[go_sem,E6,E5,df,←P,al,gN,ad,dw,←k];refine use ab ?_;simp(disch:=omega)only[go_sem,E4,bb];refine use (yb n s g aa) ?_;have ca:aC .i64 ((e:Int)+1)=(e:Int)+1:=aH _ aa;have b':((e:Int)+1).toNat=e+1:=aa;simp(disch:=omega)only[go_sem,E3,E2,←p,ca,ir,b',oJ];refine use (yb m s g aa) ?_;simp(disch:=omega)only[go_sem];refine Bv (cs:=aL (aX (e+1) 0)) (by simp only[go_sem]) R (by rw[eM];simp) ?_;obtain⟨f,o⟩:∃X,X=aq (m*2^s)++aX (e+1-(aq (m*2^s)).length) 0:=⟨_,rfl⟩;have S:aL (aq (m*2^s))++(aL (aX (e+1) 0)).drop (aq (m*2^s)).length=aL f:=by
  rw[o,yF];congr 1;rw[aL,←List.map_drop,List.drop_replicate];rfl
 have ch:W.aA f:=by rw[o];exact(gp _).app (uo _)
 have a8:f.length=e+1:=by rw[o];simp;omega
 have T:W.val f=m*2^s:=by rw[o,W.fF,tj,gi,fc,cE]
 rw[S];clear S o R;obtain⟨j,aw⟩:∃j,e+1-l=j:=⟨_,rfl⟩;have cb:aC .i64 ((e:Int)-(l:Int))=(j:Int)-1:=by rw[aH _ aa];omega
 have cd:aC .i64 ((j:Int)-1+1)=(j:Int):=by rw[aH _ aa];omega
 simp(disch:=omega)only[go_sem,E_,E9,←p,cb,cd,ir,oJ,bJ];have a6:W.val (f.drop j)<W.val (aq (n*2^s)):=by
  have y:=W.pV f j aa;rw[T]at y;have a:=nS m;rw[←p,(aa:e=j+(l-1)),gw]at a;have b:=od a u;obtain⟨r,M,_⟩:=mV (n*2^s) (uX w aa);rw[D]at M;refine HY b y ?_;rw[gi,M];have a3:2^s≤9223372036854775808:=cy (gl ag g) ag;have c2:=dn (18446744073709551616^(l-1)) (cy a3 E);rw[bK];exact cy c2 (sq _ _)
 refine Fv f (aq (n*2^s)) l e j ch (gp _) a8 D Q aw F aa E N (N+1) aa _ _ _ ?_ ?_ ?_ ?_ ?_ a6 ?_ ?_ ?_
 iterate 5 simp only[go_sem]
 ·simp only[go_sem];rw[aj aa]
 ·simp only[go_sem]
 intro A L r am B hr co ci bs I G bc V bi;have h9:rd 9 A=ay (s:Int):=(B 9 ag).trans (by simp only[go_sem]);have a1:rd 11 A=.slice N 0 (e+1) (.known (e+1)):=(B 11 ag).trans (by simp only[go_sem]);have a2:rd 12 A=.slice (N+1) 0 j (.known j):=(B 12 ag).trans (by simp only[go_sem]);rw[fA];rw[T,gi]at I;rw[gi]at G;have a7:0<n*2^s:=Nat.mul_pos aa u;have hq:W.val am=m/n:=by
  rw[←Nat.mul_div_mul_right m n u,←I,bK,Nat.mul_add_div a7,m4 G,cE]
 have b1:W.val r=m%n*2^s:=by
  rw[←su,←I,bK,Nat.mul_add_mod,jV G]
 simp(disch:=omega)only[go_sem,E8,a2];refine jk (qT am aa) V ⟨0,_,_,dj.2 rfl⟩ (.cons (qs V (by rw[af.aK,ak rfl]) bs) .nil) ?_;simp(disch:=omega)only[go_sem,a1];have Y:(L.set (N+1) .none).get N=.cells (aL (r++aX j 0)) 0:=by rw[af.aK,aj aa];exact bc
 have be:(r++aX j 0).length=e+1:=by simp;omega
 refine jk (qT (r++aX j 0) aa) Y ⟨0,_,_,dj.2 rfl⟩ (.cons (qs Y (by rw[af.aK,ak rfl]) be) .nil) ?_;have b2:W.trim (r++aX j 0)=aq (m%n*2^s):=by
  rw[l_ (co.app (uo _)),W.fF,tj,fc,cE,b1]
 rw[b2,l_ ci,hq];have b0:(aq (m%n*2^s)).length<100000:=by
  have:=lP (m:=m%n*2^s) (n:=n*2^s) (dn _ (g8 (eU _ aa)));omega
 have a5:m%n*2^s≠0:=uX bv aa;have bj:N≤L.next:=by rw[bi];simp only[go_sem];omega
 simp(disch:=omega)only[go_sem,h9];refine(Ku (R:=fun v b O=>∃i c,v=.slice b 0 (aq (m%n)).length c∧O=aL (aq (m%n)++i)) (cD.refl _) ((apZ (m%n*2^s) s g a5 b0 _).mono ?_)).mono ?_
 ·rintro _ H4 ⟨i,c,rfl,hb,z⟩;rw[uW _ u]at z⊢;exact⟨_,_,_,.slice _ _ _,aE _,hb,z,fun x y=>by
   simp only[aL,k_]at y;obtain⟨d,_,rfl⟩:=y;exact⟨_,_,rfl⟩,i,c,rfl,rfl⟩
 rintro _ H4 ⟨b,O,⟨i,c,rfl,rfl⟩,a',ba,z⟩;simp(disch:=omega)only[go_sem];exact⟨_,b,i,c,rfl,cy bj a',ba,by rw[z,ak rfl]⟩
theorem af0(m n:Nat)(d:n≠0)(f:2≤(aq n).length)(i:¬m<n)(j:m%n≠0)(k:(aq m).length<80)(l:(aq n).length<80)(N:Nat):c7 250 [bl (aq m),bl (aq n)] (af.zero N) fun v a=>∃q b e c,v=.az [q,.slice b 0 (aq (m%n)).length c]∧N≤b∧b<a.next∧a.get b=.cells (aL (aq (m%n)++e)) 0:=by
 refine aT Gh ?_;simp(disch:=omega)only[go_sem,d250,EN,EM,dt];refine(afW m n d f i j aa aa N).mono ?_;rintro _ a ⟨q,b,e,c,rfl,g,d,h⟩;simp only[go_sem];exact⟨q,b,e,c,rfl,g,d,h⟩
def qx(l:List Nat)(n s:Nat):Nat:=l.getD (n-1) 0*2^s+l.getD (n-2) 0/2^(64-s)
theorem OL{l:List Nat}{n s:Nat}(A:s≤63)(f:2≤n)(hl:l.length≤n)(t:W.aA l):∃d,W.val l=18446744073709551616^(n-2)*2^(64-s)*qx l n s+d∧d<18446744073709551616^(n-2)*2^(64-s):=by
 have k:∃L:List Nat,L.length=n∧W.val L=W.val l∧W.aA L∧∀i,L.getD i 0=l.getD i 0:=by
  refine⟨l++aX (n-l.length) 0,by simp;omega,by rw[W.fF,tj,fc,cE],t.app (uo _),fun i=>?_⟩;simp only[bX];rcases mj i l.length with h|h
  ·rw[lJ h]
  ·rw[q4 h,kO h];rcases mj (i-l.length) (n-l.length)with h1|h1
   ·rw[List.getElem?_replicate,ak h1];rfl
   ·rw[kO (by simpa using h1)]
 obtain⟨L,x,o,u,c⟩:=k;have h:=W.vG (l:=L) (n:=n) f aa (fun p y=>by rw[bX,kO aa];rfl);have z:W.val (L.take (n-2))<18446744073709551616^(n-2):=by
  have:=W.gS (u.take (n-2));rw[g6 aa]at this;exact this
 rw[o,c,c]at h;unfold qx;generalize l.getD (n-1) 0=b at*
 generalize l.getD (n-2) 0=a at*
 generalize W.val (L.take (n-2))=r at*
 generalize(18446744073709551616:Nat)^(n-2)=P at*
 have e:=sZ (s:=s) aa;have hT:0<2^(64-s):=fl ag;have g:=jm a (2^(64-s));have j:=eU a hT;generalize 2^(64-s)=T at*
 generalize a/T=q at*
 generalize a%T=m at*
 refine⟨P*m+r,?_,?_⟩
 ·rw[h,e,←g,cF,bD,cF];have v:b*(T*2^s)*P=P*T*(b*2^s):=by ac_rfl
  have w:T*q*P=P*T*q:=by ac_rfl
  rw[v,w,bK m];omega
 ·have:=fy P (show m+1≤T from j);rw[bD,dF]at this;omega
def jP(b c d e:Nat)(a:Bool):List V:=[ay (b:Int),ay (c:Int),ay (d:Int),ay (e:Int),.bool a]
def AI(A B:Nat)(v:V):Prop:=∃c d a b e,v=.agg (jP c d a b e)∧c<18446744073709551616∧d<18446744073709551616∧a<18446744073709551616∧b<18446744073709551616∧(a≠0→1≤b∧∃f g,tC A B c d a b e f g)
variable{p:Bool}
theorem B9{k o l i m f s:Nat}(g:oc h u L k o l i m f s p)(v:h<18446744073709551616):k<18446744073709551616∧i<18446744073709551616∧l<18446744073709551616:=by
 have n:=g.Is;have w:f≤h:=by
  have:=g.hF;have q:f≤m*f:=by rw[bK];exact rJ n
  omega
 rcases g.ph with⟨a,b,c,d,e⟩|⟨a,b,c,j,x,y,r,t,_⟩
 ·omega
 ·have:j≤i*j:=by rw[bK];exact rJ a
  omega
theorem ap4(i p:Nat)(S:i<18446744073709551616)(V:p≤i)(Q:1≤i)(F:Fr)(H:af)(R:X→Fr→af→Prop)(b:Nat)(L:rd 7 F=ay (i:Int))(M:rd 8 F=ay (p:Int))(N:rd 9 F=.ptr b 0)(J:rd 10 F=ay 0)(K:rd 11 F=ay 1)(T:H.get b=.cells (jP 0 1 0 0 false) 0)
 (U:∀g B l e d o c a f s n,oc i p l e d o c a f s n→l<18446744073709551616→rd 9 g=.ptr b 0→rd 4 g=rd 4 F→eH H B b (jP l e o c n)→R (.exit 1) g B):bx (.loop (pc 249 5)) R F H:=by
 refine bH (fun k m t=>∃(l e d o c a f:Nat) (n:Bool),oc i p l e d o c a f k n∧l<18446744073709551616∧rd 4 m=rd 4 F∧rd 7 m=ay (f:Int)∧rd 8 m=ay (k:Int)∧rd 9 m=.ptr b 0∧rd 10 m=ay (d:Int)∧rd 11 m=ay (a:Int)∧eH H t b (jP l e o c n)) p ⟨0,1,0,0,0,1,i,false,oc.start V Q,ag,rfl,L,M,N,J,K,eH.refl T⟩ ?_;rintro s m t ⟨l,e,d,o,c,a,f,n,j,ab,w,C,x,r,O,v,y⟩;rw[aaq];have z:=y.at;have Y:=j.small;have ae:=j.Is;have a6:=j.Ir;have a2:f≤i:=by
  have:=j.hF;have h2:f≤a*f:=by rw[bK];exact rJ ae
  omega
 have a5:=j.sf;have D:∀g:Fr,rd 9 g=.ptr b 0→rd 4 g=rd 4 F→R (.exit 1) g t:=fun g h P=>U g t _ _ _ _ _ _ _ _ _ j ab h P y
 unfold jP at z;by_cases I:a≤s
 ·have a7:=Y.2 aa;have E:aC .u64 ((f:Int)-(s:Int))=((f-s:Nat):Int):=by rw[bW _ aa];omega
  have G:aC .u64 ((c:Int)+(a:Int))=((c+a:Nat):Int):=by rw[bW _ aa];omega
  by_cases c2:c+a≤f-s
  ·have u:=j.step I aa;have ad:=u.Ir;have Z:=u.small.1;have a4:¬((s:Nat):Int)=0:=aa;have ac:=(B9 j S).1;obtain⟨q,A⟩:∃q,q=f/s:=⟨_,rfl⟩;rw[←A]at u ad Z;have a3:q≤f:=by rw[A];exact jn _ _
   have aw:aC .u64 ((q:Nat):Int)=(q:Int):=bW _ aa;have wr:aC .u64 ((f%s:Nat):Int)=((f%s:Nat):Int):=bW _ ⟨uR _,by
    have:=Nat.mod_le f s;omega⟩
   have ap:aC .u64 ((q:Int)*(a:Int))=((q*a:Nat):Int):=by rw[←fU];exact bW _ aa
   have wa:aC .u64 ((c:Int)+((q*a:Nat):Int))=((c+q*a:Nat):Int):=by rw[bW _ aa];omega
   have ar:aC .u64 ((q:Int)*(d:Int))=((q*d:Nat):Int):=by rw[←fU];exact bW _ aa
   have am:aC .u64 ((e:Int)+((q*d:Nat):Int))=((e+q*d:Nat):Int):=by rw[bW _ aa];omega
   simp(disch:=omega)only[go_sem,aap,aao,aan,aah,aag,C,x,r,O,v,z,E,G,df,jG,mB,uG,yq,←A,aw,ap,wa,ar,am];have W:f%s<s:=eU _ aa;refine⟨f%s,W,e,d,e+q*d,c,a,c+q*a,s, !n,u,ac,?_,?_,?_,?_,?_,?_,?_⟩
   iterate 6 simp only[go_sem,w,r]
   ·exact((((y.set _).set _).set _).set _).set _
  ·simp(disch:=omega)only[go_sem,C,x,r,v,z,E,G,dt,df];refine D _ ?_ ?_
   iterate 2 simp only[go_sem,r,w]
 ·simp(disch:=omega)only[go_sem,x,v,dt];refine D _ ?_ ?_
  iterate 2 simp only[go_sem,r,w]
end Go.Proofs.YtddhncjmaahodaaGreatDoor
