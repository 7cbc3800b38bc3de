/- Towards the law TreeDivides: lemmas on the evaluator of the model's code, plain laws of numbers, walks of the program's functions, the card. No conditions. -/
import Derived.Test.YtddhncjmaahodaaGreatDoorE0
import Derived.RangeFuncRecord
import Derived.Scope
import Derived.Attr
import Derived.Test.YtddhncjmaahodaaGreatDoorProg
import Derived.KernelRfl
set_option linter.all false
noncomputable section
open Array renaming replicate→uN
open Bool renaming and_eq_true→cC,eq_false_iff→lq,false_eq_true→iM
open Classical renaming byContradiction→oN
open Go.IntKind renaming bits→p5,signed→p6,wrap→r6
open Go.Proofs.Tryz renaming prog→eO
open Go.Result renaming andThen_ok→eH
open Go.Sem renaming run_bind→eg,run_pure→fZ
open Int renaming natAbs_mul→oO,natAbs_natCast→d_,natAbs_neg→mY,natCast_mul→fY,tdiv→lO,tmod→mZ,toNat_natCast→bH
open List renaming append_assoc→fl,cons_append→eL,drop_eq_getElem_cons→lz,drop_of_length_le→jF,eq_nil_of_length_eq_zero→oP,ext_getElem?→uQ,getD_eq_getElem?_getD→cy,getElem?_append_left→p8,getElem?_eq_getElem→cx,getElem?_eq_none→m0,getElem?_eq_some_iff→gZ,getElem_mem→wB,length_append→aV,length_cons→cV,length_drop→g5,length_nil→kS,length_set→gE,length_singleton→gP,length_take_of_le→g_,length_take→dP,length→kD,mem_append→hN,mem_cons→jr,mem_filter→p9,mem_map→kT,mem_of_getElem?→eN,mem_of_mem_take→uS,mem_singleton→ec,nil_append→eE,pairwise_append→wD,pairwise_cons→tA,replicate_succ→qa,replicate_zero→qb,replicate→aW,take_append_drop→qc,take_left→q4,take_of_length_le→b8,take_succ_eq_append_getElem→kU
open Nat renaming add_assoc→mo,add_comm→js,add_mul→eu,add_sub_cancel→q7,add_zero→cG,add→gF,beq_refl→tC,beq→bn,ble→bL,div_add_mod→jt,div_eq_of_lt→m3,div_le_self→ju,div_lt_iff_lt_mul→q8,div_lt_of_lt_mul→uT,div_mul_le_self→wG,div_one→qe,eq_zero_or_pos→r_,gcd_comm→qf,gcd→cu,le_div_iff_mul_le→tD,le_of_lt→hO,le_of_not_lt→jW,le_refl→aF,le_trans→cH,lt_of_le_of_lt→e_,lt_of_lt_of_le→eF,lt_of_mul_lt_mul_right→tE,lt_of_not_le→tF,lt_or_ge→oe,lt_succ_self→mq,lt_trans→qg,mod_eq_of_lt→kf,mod_lt→eX,mul_add→cr,mul_assoc→cI,mul_comm→b3,mul_div_cancel→uU,mul_le_mul_left→fE,mul_le_mul_right→ee,mul_le_mul→jX,mul_lt_mul_of_pos_right→og,mul_mod_mul_right→si,mul_ne_zero→uV,mul_one→ef,mul_right_comm→uW,mul_zero→fy,mul→eM,not_lt_zero→m5,one_mul→iP,pos_of_ne_zero→lA,pow_add→gG,pow_le_pow_left→wH,pow_le_pow_right→gw,pow_pos→fR,pow_succ→cS,pow_zero→nL,reduceEqDiff→kW,strongRecOn→jG,sub→jv,succ_mul→oR,succ_ne_zero→sj,succ_pos→m7,zero_add→eJ,zero_le→b4,zero_mul→jg
open Option renaming none→aJ
open Rat renaming divInt_ofNat→uZ,divInt→nM
open UInt8 renaming ofNat→g6
namespace Go.au
section
variable {P:Program}{N:eT}{T:cc}{G:Nat}{ops:Array Oper}{ro:Option Nat}{nn:Nat}
variable {kz:aG}{H0:af}{w0:World}{done r:List Info}{F:Fr}{H:af}{listed:Array Bool}{a:Act}{w:World}{φ:aG}
def z9(l a:List Info)(r:List Info)(j:Nat):List c6:=match r with
 |[]=>[]
 |e::r=>c6.ex e.s::cX (lmap (fun i=>c6.re i.s) (kL (fun i=>and (!i.gN) (and (xw i.s.cop) (and (bL (nc a i.mask) j) (!(iS e.mask i.ix))))) l)) (z5 l a r (j+1))
theorem RP(l a r:List Info)(j:Nat):z5 l a r j=cX (lmap (fun i=>c6.ex i.s) (mB l a j)) (z9 l a r j):=by
 cases r with
 |nil=>rw[iH];show lmap _ _=_++[];simp
 |cons e r=>rfl
variable{e:Fr→af→Prop}
theorem ao_(f:Info→Step):∀ {l:List Info}{F:Fr}{H:af},gI P G (lmap (fun i=>c6.re (f i)) l) F H e→e F H∧∀i∈l,wm (f i) F H:=by
 intro l;induction l with
 |nil=>exact fun h=>⟨h,fun i hi=>by cases hi⟩
 |cons i l b=>
  intro F H h;have a:wm (f i) F H∧gI P G (lmap (fun i=>c6.re (f i)) l) F H e:=h
  grind
theorem RO:∀ {l:List Info}{F:Fr}{H:af},(∀i∈l,qx i.s.cop=false)→gI P G (lmap (fun i=>c6.ex i.s) l) F H e→∃f k,sZ qH (lmap (fun i=>c6.ex i.s) l) F H=some (f,k)∧e f k:=by
 intro l;induction l with
 |nil=>exact fun _ h=>⟨_,_,rfl,h⟩
 |cons i l v=>
  intro F H o h;have p:jw P G i.s F H fun b c=>gI P G (lmap (fun i=>c6.ex i.s) l) b c e:=h
  have t:∃b c,exec qH i.s F H=some (b,c)∧gI P G (lmap (fun i=>c6.ex i.s) l) b c e:=by
   rcases p with⟨m,a⟩|⟨m,a⟩
   ·exact⟨_,_,by unfold exec;rw[m],a⟩
   ·have hi:=o i aE;cases d:i.s.cop with
    |call n g=>rw[d]at hi;cases hi
    |mO x=>rw[d]at hi;cases hi
    |gK n g=>rw[d]at hi;cases hi
    |bad=>rw[d]at a;exact a
    |pu n g=>rw[d]at a;exact a
    |rd n g=>rw[d]at a;exact a
  obtain⟨b,c,m,a⟩:=t;obtain⟨f,k,q,r⟩:=v (fun j u=>o j (by simp[u])) a;exact⟨f,k,av.2 ⟨(b,c),m,q⟩,r⟩
variable{J:Exit→Act→World→Prop}
theorem e_step(hT:cT P T)(b5:jV P N)(L:mE ops.toList 0=true)(ad:s_ ops.toList (dS N T ops.toList)=true)(ap:(done++r).Pairwise (fun a b=>Pred ops.toList b.ix a.ix))
 (cs:∀U∈ops.toList,ny G a.tmps.size U=true) (m:ob N T G ops kz H0 w0 done r F H listed a w φ) {x:Info} (D:x∈dS N T ops.toList) (al:x.gN=true) (co:¬iN listed x.ix) (bi:ops[x.ix]? =some x.o) (hi:x.ix<listed.size)
 (hr:∀f∈x.o.after.toList,kG f=true→iN listed f.on) (c1:gI P G (z9 (dS N T ops.toList) (done++r) r done.length) F H e) {K:Act→World→Prop}
 (hK:∀X W E d I O,r=x::d→ob N T G ops kz H0 w0 (done++[x]) d I O (listed.setIfInBounds x.ix true) X W E→gI P G (z9 (dS N T ops.toList) ((done++[x])++d) d (done++[x]).length) I O e→
   X.tmps.size=a.tmps.size→X.defers=a.defers→K X W):wpOpIn (fw ro) nn P ops J x.ix K a w:=by
 obtain⟨ho,hw⟩:=P8 L ad cs m D hr;have dt:ops.toList[x.ix]? =some x.o:=by simpa using bi
 have bo:x.s=stepOf N T ops.toList x.o∧x.mask=maskAt ops.toList x.ix:=by
  obtain⟨i,U,_,rfl⟩:=qk.1 D;exact⟨rfl,rfl⟩
 have ar:∀ {j:Nat},Pred ops.toList x.ix j→iN listed j:=fun h=>D8 L m.closed (fun o' ea=>by grind) h
 have be:x∈done++r:=by rw[←m.split];exact p9.2 ⟨D,al⟩
 have bj:x∈r:=by
  rcases hN.1 be with h|h
  ·exact absurd ((m.gK x be).2 h) co
  ·exact h
 have c':∃d,r=x::d:=by
  cases r with
  |nil=>cases bj
  |cons f d=>
   rcases jr.1 bj with rfl|h
   ·exact⟨d,rfl⟩
   ·have hp:Pred ops.toList x.ix f.ix:=(tA.1 (wD.1 ap).2.1).1 x h;have cb:=(m.gK f aE).1 (ar hp);have:=(wD.1 ap).2.2 f cb f aE;have:=pred_lt L this;omega
 obtain⟨d,rfl⟩:=c';have bd:jw P G x.s F H fun q M=>gI P G (cX (lmap (fun i=>c6.re i.s) (kL (fun i=>and (!i.gN) (and (xw i.s.cop) (and (bL (nc (done++x::d) i.mask) done.length) (!(iS x.mask i.ix))))) (dS N T ops.toList))) (z5 (dS N T ops.toList) (done++x::d) d (done.length+1))) q M e:=c1
 rw[bo.1]at bd;have cf:(done++[x]).length=done.length+1:=aE;have aw:(done++[x])++d=done++x::d:=aE;have S:∀y∈dS N T ops.toList,y.mask=maskAt ops.toList y.ix∧y.s=stepOf N T ops.toList y.o∧qx (cop N T y.o.op)=y.gN:=by
  intro y c;obtain⟨i,U,_,rfl⟩:=qk.1 c;exact⟨rfl,rfl,rfl⟩
 have db:∀y∈dS N T ops.toList,(nc (done++x::d) y.mask≤done.length↔ri ops.toList y (x::d)):=fun y c=>HP L ap (S y c).1
 have ed:∀y∈dS N T ops.toList,(nc (done++x::d) y.mask≤done.length+1↔ri ops.toList y d):=fun y c=>by
  grind [HP]
 have ae:∀u,u∈mB (dS N T ops.toList) (done++x::d) (done.length+1)↔u∈dS N T ops.toList∧u.gN=false∧ri ops.toList u d∧¬ri ops.toList u (x::d):=by
  intro u;unfold mB;rw[vE,p9];constructor
  ·rintro⟨n,k⟩;rw[cC,beq_eq]at k
   grind
  ·rintro⟨n,k,Q,z⟩;refine⟨n,?_⟩;rw[cC,beq_eq]
   grind
 refine RQ bi hT b5 ho hw m.ext.rel m.BC bd ?_;intro v v' E W M jA dq a1;generalize Z:put F x.o.dst v=q at a1
 replace Z:=Z.symm;rw[iH]at a1;obtain⟨bb,b'⟩:=ao_ (fun i=>i.s) (gI.app.1 a1);rw[RP,iH]at bb;obtain⟨I,O,da,c2⟩:=RO (fun u A=>by
  obtain⟨n,k,_,_⟩:=(ae u).1 A;rw[(S u n).2.1];show qx (cop N T u.o.op)=false
  grind) (gI.app.1 bb)
 have R:∀y,Out N T ops (x::d) listed y→∀t,lp ops.toList y.o t=true→q.get V.undef t=F.get V.undef t:=by
  intro y c t p;rw[Z];cases hd:x.o.dst with
  |none=>rfl
  |some t0=>
   rw[oF,aj];intro f;subst f;rcases((qQ ad D).2 t0 hd).2 y c.1 with h|h|h|h
   ·have k:=c.2.1;rw[sq c.1 D h,al]at k;cases k
   ·rw[p]at h;cases h
   ·exact c.2.2.1 x aE h
   ·exact c.2.2.2 (ar h.2)
 have d8:∀y,Out N T ops (x::d) listed y→kY N T ops.toList H0.next y.o q M E:=by
  intro y c;refine(m.zH y c).keep (R y c) (fun id d3 B Y am=>⟨?_,?_,eF am jA.next⟩) (fun xs g u B Y am d4=>?_)
  ·rw[jA.nX am Y (by rw[B];simp)];exact B
  ·cases h:E id with
   |none=>rfl
   |some l=>have:=(jA.fresh Y h).1;omega
  ·have ba:∀t,reads ops.toList y.o t=true→q.get V.undef t=F.get V.undef t:=fun t p=>R y c t (by unfold lp;rw[p];simp)
   obtain⟨t,p,_⟩:=m.zH y c;have d9:q.get V.undef t=F.get V.undef t:=R y c t (by unfold lp;rw[vO.2 p];rfl);have hm:y∈kL (fun i=>and (!i.gN) (and (xw i.s.cop) (and (bL (nc (done++x::d) i.mask) done.length) (!(iS x.mask i.ix))))) (dS N T ops.toList):=by
    rw[vE,p9];refine⟨c.1,?_⟩;have c0:xw y.s.cop=true:=by rw[(S y c.1).2.1];show xw (cop N T y.o.op)=true;rw[B];rfl
    have ca:bL (nc (done++x::d) y.mask) done.length=true:=(fB _ _).2 ((db y c.1).2 c.2.2.1);have ci:iS x.mask y.ix=false:=by
     apply lq.2;intro h;rw[bo.2]at h;exact c.2.2.2 (ar h)
    rw[c.2.1,c0,ca,ci];rfl
   have ab:=b' y hm;rw[(S y c.1).2.1]at ab;have eh:(stepOf N T ops.toList y.o).want q=some true:=(uI ba).trans Y;rcases ab with h0|⟨_,ab⟩
   ·grind
   ·obtain⟨u1,a7,dl⟩:=ab xs _ B;have dp:=(dl t p).symm;rw[sS (G6 B) ba]at a7;rw[a7,dp];have d5:aN.lW V.undef (path t) q=q.get V.undef t:=rfl
    grind
 have hB:H0.next≤M.next:=cH m.ext.next jA.next
 obtain⟨q1,em,eq,dC,dE,dT,d0⟩:=RN (N:=N) (T:=T) (ol:=ops.toList) (B:=H0.next) (cf:=qH) (φ:=E) (w:=W) (mB (dS N T ops.toList) (done++x::d) (done.length+1)) q M I O (fun U=>∃y,Out N T ops (x::d) listed y∧U=y.o)
  (fun u A=>by
    obtain⟨n,k,_,_⟩:=(ae u).1 A;refine⟨(S u n).2.1,by grind,?_⟩;cases hd:u.o.dst with
    |none=>grind [qQ]
    |some t=>grind [qQ])
  (by
    rintro _ u ⟨y,c,rfl⟩ A t p;obtain⟨n,k,_,z⟩:=(ae u).1 A;rcases((qQ ad n).2 t p).2 y c.1 with h|h|h|h
    ·rw[sq c.1 n h]at c;exact absurd c.2.2.1 z
    ·exact h
    ·exact absurd (fun f C hp=>c.2.2.1 f C (GW L h hp)) z
    grind)
  (by
    unfold mB;rw[vE];refine(List.Pairwise.filter _ (IZ ops.toList)).imp_of_mem ?_;intro u1 u2 dd dk d' t p;have df:=(p9.1 dd);have bc:=(p9.1 dk);have d7:u2.gN=false:=by have:=bc.2;rw[cC]at this;simpa using this.1
    rcases((qQ ad bc.1).2 t p).2 u1 df.1 with h|h|h|h
    ·omega
    ·exact h
    ·have:=pred_lt L h;omega
    grind)
  jA.rel hB (by grind)
  (by
    rintro _ _ ⟨y1,bs,rfl⟩ ⟨a6,bv,rfl⟩ id n1 n2;exact m.Fi _ _ ⟨y1,bs,rfl⟩ ⟨a6,bv,rfl⟩ id (n1.congr (R y1 bs)) (n2.congr (R a6 bv))) da
 have eb:∀y,Out N T ops d (listed.setIfInBounds x.ix true) y→Out N T ops (x::d) listed y∨y∈mB (dS N T ops.toList) (done++x::d) (done.length+1):=by
  intro y c;rw[wK hi]at c;obtain⟨⟨n,k,Q,z⟩,_⟩:=c;by_cases h:ri ops.toList y (x::d)
  ·exact .inl ⟨n,k,h,z⟩
  ·grind
 have cd:∀y,Out N T ops (x::d) listed y→Out N T ops d (listed.setIfInBounds x.ix true) y:=by
  rintro y ⟨n,k,Q,z⟩;refine(wK hi).2 ⟨⟨n,k,fun f C=>Q f (by simp[C]),z⟩,fun f=>?_⟩;rw[sq n D f,al]at k;cases k
 have ce:∀u∈mB (dS N T ops.toList) (done++x::d) (done.length+1),Out N T ops d (listed.setIfInBounds x.ix true) u:=by
  intro u A;obtain⟨n,k,Q,z⟩:=(ae u).1 A;refine(wK hi).2 ⟨⟨n,k,Q,fun hl=>z (m.ne u n k hl)⟩,fun f=>?_⟩;rw[sq n D f,al]at k;cases k
 refine hK _ W E d I O rfl ⟨by rw[aw];exact m.split,by simp[m.size],Ky m dt hi hr,?_,?_,NI (m.ext.trans jA) q1 dE dT,m.BC.mono jA.le,?_,?_,?_⟩ (by rw[aw,cf];exact c2) (zM _ _ _) (put_defers _ _ _)
 ·intro f C;rw[aw]at C;rw[wF hi,hN,ec,m.gK f C]
  grind
 ·intro y c du hl;rw[wF hi]at hl;rcases hl with h|h
  ·grind [sq]
  ·exact fun f C=>m.ne y c du h f (by simp[C])
 ·intro t p a8;rw[zM]at p;have B:I.get V.undef t=q.get V.undef t:=dC t (fun u A=>a8 u (ce u A));rw[B,Z];have a9:x.o.dst≠some t→aL E (F.get V.undef t) (a.tmps.getD t undef):=fun _=>(m.tmps t p (fun y c=>a8 y (cd y c))).mono jA.le
  cases hd:x.o.dst with
  |none=>exact a9 (by rw[hd];simp)
  |some t0=>
   rw[oF];by_cases h:t0=t
   ·subst h;rw[ao rfl];simpa [Act.put,p]using dq
   ·rw[aj h];have:=a9 (by grind);simpa [Act.put,Array.getElem?_setIfInBounds_ne h]using this
 ·grind
 ·rintro _ _ ⟨y1,n,rfl⟩ ⟨a6,k,rfl⟩ id n1 n2;refine d0 _ _ ?_ ?_ id n1 n2
  ·grind
  grind
end
section
variable {P:Program}{N:eT}{T:cc}{G:Nat}{ops:Array Oper}{ro:Option Nat}{nn:Nat}
variable {kz:aG}{H0:af}{w0:World}{done r:List Info}{F:Fr}{H:af}{listed:Array Bool}{a:Act}{w:World}{φ:aG}
theorem S9(a:mE ops.toList 0=true)(k:listed.size=ops.size)(h:Region.ready .any ops listed=[]):∀i,i<ops.size→iN listed i:=by
 intro i;induction i using jG with
 |_ i f=>
  intro hi;refine oN fun d=>?_
  have j:i∈Region.ready .any ops listed:=by
   refine mem_ready.2 ⟨?_,ops[i],by simp[hi],fun e b g=>?_⟩
   ·unfold iN at d
    grind
   ·have c:=y3 a (i:=i) (o:=ops[i]) (by simp[hi]) (e:=e) (by simpa using b) (by grind [JK]);exact f e.on c aa
  grind
theorem UH(f:mE ops.toList 0=true)(k:(done++r).Pairwise (fun a b=>Pred ops.toList b.ix a.ix))(c:ob N T G ops kz H0 w0 done r F H listed a w φ)(h:Region.ready .any ops listed=[]):r=[]∧jI φ F a.tmps:=by
 have g:=S9 f c.size h;have j:∀x∈dS N T ops.toList,x.ix<ops.size:=by
  intro x d;obtain⟨i,o,n,rfl⟩:=qk.1 d;have:=(gZ.1 n).1;show i<ops.size;simpa using this
 refine⟨?_,fun t p=>c.tmps t p (fun x d=>absurd (g _ (j x d.1)) d.2.2.2)⟩;cases r with
 |nil=>rfl
 |cons e r=>
  have m:e∈dS N T ops.toList:=by
   have:e∈done++e::r:=aE;rw[←c.split]at this;exact(p9.1 this).1
  have l:=(c.gK e aE).1 (g _ (j e m));have:=(wD.1 k).2.2 e l e aE;have:=pred_lt f this;omega
variable{h:Nat}
theorem KD(hi:h<listed.size)(a:¬iN listed h){k:Nat}(c:listed.toList.count false≤k+1):(listed.setIfInBounds h true).toList.count false≤k:=by
 have b:listed.toList[h]'(by simpa using hi)=false:=by
  unfold iN at a;simp[hi]at a;simpa using a
 grind
variable{J:Exit→Act→World→Prop}{e:Fr→af→Prop}
theorem Te(hT:cT P T)(b5:jV P N)(q:mE ops.toList 0=true)(U:s_ ops.toList (dS N T ops.toList)=true)
 (D:((dS N T ops.toList).filter (fun i=>i.gN)).Pairwise (fun a b=>Pred ops.toList b.ix a.ix)) (ae:∀o∈ops.toList,ny G h o=true) {u:List Deferred}
 (Z:∀n d m A B,Ext kz H0 w0 n B m→jI n A d.tmps→d.tmps.size=h→d.defers=u→e A B→J .normal d m):
 ∀(p:Nat) (listed:Array Bool) (a:Act) (w:World) (φ:aG) (F:Fr) (H:af) (done r:List Info),ob N T G ops kz H0 w0 done r F H listed a w φ→gI P G (z9 (dS N T ops.toList) (done++r) r done.length) F H e→
  listed.toList.count false≤p→a.tmps.size=h→a.defers=u→wpAnyIn (fw ro) nn P .any ops J p listed a w:=by
 have M:∀(listed:Array Bool) (a:Act) (w:World) (φ:aG) (F:Fr) (H:af) (done r:List Info),ob N T G ops kz H0 w0 done r F H listed a w φ→gI P G (z9 (dS N T ops.toList) (done++r) r done.length) F H e→
  a.tmps.size=h→a.defers=u→Region.ready .any ops listed=[]→J .normal a w:=by
  intro listed a w φ F H done r c l f j t;obtain⟨rfl,ap⟩:=UH q (by rw[←c.split];exact D) c t;exact Z φ a w F H c.ext ap f j l
 intro p;induction p with
 |zero=>
  intro listed a w φ F H done r c l I f j;have t:Region.ready .any ops listed=[]:=by
   rw[List.eq_nil_iff_forall_not_mem];intro i hi;obtain⟨o,_,_,g,k,_⟩:=QS hi;have:=KD k g (k:=0) aa;have hf:listed.toList[i]'(by simpa using k)=false:=by
    unfold iN at g;simp[k]at g;simpa using g
   have ad:false∈listed.toList:=by rw[←hf];exact wB _
   have:=List.count_pos_iff.2 ad;omega
  exact⟨t,M listed a w φ F H done r c l f j t⟩
 |succ p W=>
  intro listed a w φ F H done r c l I f j;refine⟨M listed a w φ F H done r c l f j,fun i hi=>?_⟩;obtain⟨o,O,S,g,k,z⟩:=QS hi;have V:mkInfo N T ops.toList i o∈dS N T ops.toList:=qk.2 ⟨i,o,S,rfl⟩;have E:(done++r).Pairwise (fun a b=>Pred ops.toList b.ix a.ix):=by rw[←c.split];exact D
  have R:∀o∈ops.toList,ny G a.tmps.size o=true:=by rw[f];exact ae
  have K:=KD k g I;cases C:(mkInfo N T ops.toList i o).gN with
  |false=>
   have al:Out N T ops r listed (mkInfo N T ops.toList i o):=by
    refine⟨V,C,fun s L hp=>?_,g⟩;have hl:iN listed s.ix:=D8 q c.closed (fun o' Q=>by rw[show ops.toList[(mkInfo N T ops.toList i o).ix]? =some o from S]at Q;cases Q;exact z) hp;have ab:=(c.gK s (by simp[L])).1 hl;have:=(wD.1 E).2.2 s ab s L;have:=pred_lt q this;omega
   refine anx (x:=mkInfo N T ops.toList i o) hT b5 q U R c al O k z ?_;intro d m n y v x;exact W _ d m n F H done r y l K (v.trans f) (x.trans j)
  |true=>
   refine e_step (x:=mkInfo N T ops.toList i o) hT b5 q U E R c V C g O k z l ?_;intro d m n r' X Y _ y ar v x;exact W _ d m n X Y (done++[mkInfo N T ops.toList i o]) r' y ar K (v.trans f) (x.trans j)
variable{n:Bool}
theorem apn{id:Nat}(hT:cT P T)(b5:jV P N)(gb:P.follows .mixedOrders=true)(U:∀z∈ops.toList,ny G a.tmps.size z=true)
 (W:Rel φ H w) (R:jI φ F a.tmps) (S:lu G φ) {l:List c6} (r:plan N T ops.toList n=some l) (v:gI P G l F H e)
 (M:∀ψ k w' I K,Ext φ H w ψ K w'→jI ψ I k.tmps→k.tmps.size=a.tmps.size→k.defers=a.defers→e I K→J .normal k w'):(Code.region id ops n).wpIn (fw ro) nn P J a w:=by
 cases n with
 |false=>
  cases r;refine wpIn_region ?_;have:=aok (ro:=ro) (nn:=nn) (Q:=J) hT b5 U ops.toList 0 φ F H a w (fun j z hj=>by simpa using hj) rfl W R S v M
  grind [List.range_eq_range']
 |true=>
  obtain⟨b,r⟩:=cL.1 (show aQ (and (mE ops.toList 0) (and (s_ ops.toList (dS N T ops.toList)) (AO (kL (fun i=>i.gN) (dS N T ops.toList)))))
   (some (z5 (dS N T ops.toList) (kL (fun i=>i.gN) (dS N T ops.toList)) (kL (fun i=>i.gN) (dS N T ops.toList)) 0))=some l from r)
  cases r;rw[cC,cC,vE]at b;rw[vE]at v;obtain⟨m,Y,al⟩:=b;have p:∀y∈dS N T ops.toList,y.mask=maskAt ops.toList y.ix∧y.s=stepOf N T ops.toList y.o∧qx (cop N T y.o.op)=y.gN:=by
   intro y g;obtain⟨i,z,_,rfl⟩:=qk.1 g;exact⟨rfl,rfl,rfl⟩
  have O:=Uo m (l:=(dS N T ops.toList).filter (fun i=>i.gN)) (fun x hx=>(p x (p9.1 hx).1).1) al;refine wpIn_region_any gb ?_;generalize Q:(dS N T ops.toList).filter (fun i=>i.gN)=c at*
  rw[RP,iH]at v;have be:∀y∈dS N T ops.toList,(nc c y.mask≤0↔ri ops.toList y c):=fun y g=>HP (done:=[]) m O (p y g).1
  have E:∀u,u∈mB (dS N T ops.toList) c 0↔u∈dS N T ops.toList∧u.gN=false∧ri ops.toList u c:=by
   intro u;unfold mB;rw[vE,p9];constructor
   ·simp_all
   ·simp_all
  obtain⟨A,B,a0,aw⟩:=RO (fun u f=>by
   obtain⟨b,d,_⟩:=(E u).1 f;rw[(p u b).2.1];show qx (cop N T u.o.op)=false
   grind) (gI.app.1 v)
  have X:Rel φ H { w with drawn:=w.drawn+1 }:=W.drew 1
  obtain⟨q1,bi,a6,a7,a8,a9,bj⟩:=RN (N:=N) (T:=T) (ol:=ops.toList) (B:=H.next) (cf:=qH) (φ:=φ) (w:= { w with drawn:=w.drawn+1 }) (mB (dS N T ops.toList) c 0) F H A B (fun _=>False)
   (fun u f=>by
     obtain⟨b,d,_⟩:=(E u).1 f;refine⟨(p u b).2.1,by grind,?_⟩;cases hd:u.o.dst with
     |none=>grind [qQ]
     |some t=>grind [qQ])
   (fun _ _ h=>h.elim)
   (by
     unfold mB;rw[vE];refine(List.Pairwise.filter _ (IZ ops.toList)).imp_of_mem ?_;intro u1 u2 a1 a3 bd t D;have a2:=(p9.1 a1);have Z:=(p9.1 a3);have bb:u2.gN=false:=by have:=Z.2;rw[cC]at this;simpa using this.1
     rcases((qQ Y Z.1).2 t D).2 u1 a2.1 with h|h|h|h
     ·omega
     ·exact h
     ·have:=pred_lt m h;omega
     grind)
   X (aF _) (fun _ h=>h.elim) (fun _ _ h=>h.elim) a0
  have q:∀i,¬iN (uN ops.size false) i:=by
   intro i h;unfold iN at h;by_cases hi:i<ops.size
   ·simp[hi]at h
   ·grind
  have am:Ext φ H w φ H { w with drawn:=w.drawn+1 }:=⟨X,aG.le_refl φ,fun b d=>absurd (b.symm.trans d) aE,fun _ _ _=>rfl,aF _,fun _ _=>rfl,aF _,⟨rfl,rfl,rfl,fun h=>h,fun _ cs _ _ h=>⟨cs,h,rfl⟩⟩,fun _ h=>⟨h,rfl⟩,fun _ _ L=>.inl L⟩;have V:∀y,Out N T ops c (uN ops.size false) y↔y∈mB (dS N T ops.toList) c 0:=by
   intro y;rw[E];exact⟨fun⟨b,d,C,_⟩=>⟨b,d,C⟩,fun⟨b,d,C⟩=>⟨b,d,C,q _⟩⟩
  have hc:ob N T G ops φ H w [] c A B (uN ops.size false) a { w with drawn:=w.drawn+1 } φ:=by
   refine⟨Q,aE,fun i z h=>absurd h (q i),fun L _=>⟨fun h=>absurd h (q _),fun h=>by cases h⟩,fun x _ _ h=>absurd h (q _),NI am q1 a8 a9,S,?_,fun y g=>a6 y ((V y).1 g),?_⟩
   ·intro t D ar;rw[a7 t (fun u f=>ar u ((V u).2 f))];exact R t D
   ·grind
  exact Te (kz:=φ) (H0:=H) (w0:=w) hT b5 m Y (by rw[Q];exact O) U M ops.size _ a _ φ A B [] c hc aw aE rfl rfl
end
section
variable {P:Program}{N:eT}{T:cc}{G:Nat}
theorem least{I:Nat→Prop}:∀ {k:Nat},I k→∃m,I m∧∀j,I j→m≤j:=by
 intro k;induction k using jG with
 |_ k a=>
  grind
variable{h:Nat}{J:Exit→Act→World→Prop}{q:World}
open Classical in
theorem asf{g:Fence}{c:Code}(I:Nat→Act→World→Prop)(round:∀k a q,I k a q→c.wpIn g h P (Exit.then (fun d f=>∃m,m<k∧I m d f) J) a q){k:Nat}{a:Act}(s:I k a q):(Code.loop c).wpIn g h P J a q:=by
 refine wpIn_loop (fun a q=>∃k,I k a q) (fun a q=>if j:∃k,I k a q then Classical.choose (least (I:=fun k=>I k a q) (Classical.choose_spec j))else 0) ⟨k,s⟩ ?_;intro a q p;have r:=Classical.choose_spec (least (I:=fun k=>I k a q) (Classical.choose_spec p));refine wpIn_mono (round _ a q r.1) ?_;intro e d f b;cases e with
 |normal=>
  obtain⟨m,u,o⟩:=b;have i:∃k,I k d f:=⟨m,o⟩;have v:=Classical.choose_spec (least (I:=fun k=>I k d f) (Classical.choose_spec i));refine⟨i,?_⟩
  grind
 |exit id=>exact b
 |goto l=>exact b
 |ret=>exact b
 |panic t=>exact b
 |outgrown=>exact b
def X.exit':X→Exit
 |.norm=>.normal
 |.exit id=>.exit id
 |.ret=>.ret
structure nI (B:Nat) (φ:aG) (H:af) (w:World) (ψ:aG) (H':af) (w':World):Prop where
 rel:Rel ψ H' w'
 le:∀ {b:Nat}{l:Loc},b<B→φ b=some l→ψ b=some l
 fresh:∀ {b:Nat}{l:Loc},(b<B→φ b=none)→ψ b=some l→B≤b∧(w.heap.size≤l.c∨∃b0 l0,φ b0=some l0∧l0.c=l.c)
 nX:∀ {b:Nat},b<B→φ b=none→(∀x y,H.get b≠ .bD x y)→H'.get b=H.get b
 next:B≤H'.next
 lY:∀ {c:Nat},c<w.heap.size→(∀b l,φ b=some l→l.c≠c)→w'.heap[c]? =w.heap[c]?
 size:w.heap.size≤w'.heap.size
 same:hU w w'
 jN:∀ {b:Nat}{l:Loc},b<B→φ b=some l→H.get b=.none→H'.get b=.none∧w'.heap[l.c]? =w.heap[l.c]?
 xA:∀(c:Nat) (x:Obj),φ.im c=some x→ψ.im c=some x
 nk:∀(c:Nat) (x:Obj),ψ.im c=some x→φ.im c=some x∨w.heap.size≤c∨∃b l,φ b=some l∧l.c=c∧H.get b≠ .none
 F_:∀ {b b':Nat}{l l':Loc},φ b=some l→H.get b=.none→l.c<w.heap.size→ψ b'=some l'→l'.c=l.c→H'.get b'=.none
variable{p:aG}{c:af}{I:af}
theorem Ext.ye{B:Nat}{n:aG}{m:World}(h:Ext p c q n I m)(j:B≤c.next):nI B p c q n I m:=by
 refine⟨h.rel,fun _ e=>h.le _ _ e,?_,fun d t u=>h.nX (eF d j) t u,cH j h.next,h.lY,h.size,h.same,fun _ a f=>h.jN a f,h.le.im,h.nk,?_⟩
 rotate_left
 ·intro b o l z a f _ r s;by_cases d:o=b
  ·rw[d];exact(h.jN a f).1
  ·rcases h.rel.inj r (h.le b l a) s d with⟨_,_,g,_,_,bB⟩|⟨v,_⟩
   ·rw[(h.jN a f).1]at bB;cases bB
   ·exact v
 intro b l d e;cases i:p b with
 |none=>
  obtain⟨w,x⟩:=h.fresh i e
  grind
 |some k=>
  refine⟨jW (fun y=>by grind),.inr ⟨b,k,i,?_⟩⟩;rw[h.le b k i]at e;cases e;rfl
theorem nI.full{φ:aG}{f:World}(k:Rel φ c q)(h:nI c.next φ c q p I f):Ext φ c q p I f:=by
 have d:∀ {b:Nat}{l:Loc},φ b=some l→b<c.next:=fun{b l} e=>tF fun j=>by rw[(k.top j).1]at e;cases e
 exact⟨h.rel,⟨fun b l e=>h.le (d e) e,h.xA⟩,fun i e=>h.fresh (fun _=>i) e,h.nX,h.next,h.lY,h.size,h.same,fun a g=>h.jN (d a) a g,h.nk⟩
theorem nI.trans{B:Nat}{m N:aG}{E:af}{L M:World}(h:nI B p c q m I L)(d:nI B m I L N E M):nI B p c q N E M:=by
 have T:∀ {f:Nat}{g:Loc},m f=some g→q.heap.size≤g.c∨∃w j,p w=some j∧j.c=g.c:=by
  intro f g e;by_cases r:f<B→p f=none
  ·exact(h.fresh r e).2
  ·have F:f<B∧p f≠none:=by
    refine⟨oN fun D=>r fun o=>absurd o D,fun D=>r fun _=>D⟩
   cases s:p f with
   |none=>exact absurd s F.2
   |some j=>
    have:=h.le F.1 s
    grind
 have J:∀ {b:Nat},b<B→p b=none→m b=none:=by
  intro b a z;cases e:m b with
  |none=>rfl
  |some l=>exact absurd (h.fresh (fun _=>z) e).1 aa
 refine⟨d.rel,fun a e=>d.le a (h.le a e),?_,?_,d.next,?_,cH h.size d.size,h.same.trans d.same,fun a i t=>let⟨Q,R⟩:=h.jN a i t;let⟨U,V⟩:=d.jN a (h.le a i) Q;⟨U,V.trans R⟩,fun n x e=>d.xA n x (h.xA n x e),?_,?_⟩
 rotate_left 3
 ·intro n x e;rcases d.nk n x e with e|e|⟨b,l,i,t,y⟩
  ·exact h.nk n x e
  ·exact .inr (.inl (cH h.size e))
  ·rcases T i with u|⟨f,g,u,k⟩
   ·omega
   ·by_cases K:g.c<q.heap.size
    ·exact .inr (.inr ⟨f,g,u,k.trans t,fun v=>y (h.F_ u v K i k.symm)⟩)
    omega
 ·intro b O l W i t s y u;have K:=h.size;by_cases a:∃w j,m w=some j∧j.c=l.c
  ·obtain⟨w,j,k,v⟩:=a;exact d.F_ k (h.F_ i t s k v) aa y (u.trans v.symm)
  ·rcases(d.fresh (fun A=>by
    cases P:m O with
    |none=>rfl
    |some j=>
     have:=d.le A P
     grind) y).2 with k|⟨f,g,k,v⟩
   ·omega
   grind
 ·intro b l a e;obtain⟨o,C⟩:=d.fresh (fun A=>J A (a A)) e;refine⟨o,?_⟩;rcases C with C|⟨f,g,s,i⟩
  ·exact .inl (cH h.size C)
  grind
 ·intro b a z G;have o:=h.nX a z G;rw[←o];exact d.nX a (J a z) (by rw[o];exact G)
 ·intro n r S;rw[←h.lY r S];refine d.lY (eF r h.size) (fun b l e=>?_)
  grind
theorem lu.ext{B:Nat}{d:aG}{i:World}(g:lu G p)(f:G≤B)(h:nI B p c q d I i):lu G d:=fun b a=>let⟨l,e⟩:=g b a;⟨l,h.le (eF a f) e⟩
theorem lu.next(g:lu G p)(a:Rel p c q):G≤c.next:=by
 refine jW fun h=>?_
 obtain⟨b,e⟩:=g c.next h
 rw[(a.top (aF _)).1]at e;cases e
def Marks(a:aG)(w:World)(lo:Nat):List Deferred→Prop
 |[]=>True
 |d::ds=>(∃r,d.target=.collected r∧lo≤r∧w.heap[r]? =some (.deferred (some []))∧(∀b l,a b=some l→l.c≠r)∧(∀e∈ds,e.target≠ .collected r))∧Marks a w lo ds
theorem Marks.ext{B:Nat}{m:aG}{k:World}(h:nI B p c q m I k){lo:Nat}:∀ {ms:List Deferred},Marks p q lo ms→Marks m k lo ms
 |[],_=>trivial
 |_::_,⟨⟨r,a,o,i,s,t⟩,u⟩=>by
  have v:r<q.heap.size:=(Array.getElem?_eq_some_iff.1 i).1;refine⟨⟨r,a,o,(h.lY v s).trans i,?_,t⟩,u.ext h⟩;intro b l e;by_cases d:b<B→p b=none
  ·rcases(h.fresh d e).2 with n|⟨x,w,n,y⟩
   ·omega
   grind
  ·have j:b<B∧p b≠none:=⟨oN fun f=>d fun a=>absurd a f,fun f=>d fun _=>f⟩;cases g:p b with
   |none=>exact absurd g j.2
   |some w=>
    have:=h.le j.1 g
    grind
theorem Marks.lt{lo:Nat}:∀ {ms:List Deferred},Marks p q lo ms→∀d∈ms,∀r,d.target=.collected r→lo≤r∧r<q.heap.size
 |[],_,d,hd=>by cases hd
 |_::_,⟨⟨r,e,f,g,_⟩,a⟩,d,hd=>by
  intro c b;rcases jr.1 hd with rfl|hd
  ·grind
  ·exact a.lt d hd c b
variable{a:Nat}
theorem Marks.app{lo:Nat}(c:lo≤a):∀ {ms b:List Deferred},Marks p q a ms→Marks p q lo b→(∀d∈b,∀r,d.target=.collected r→r<a)→Marks p q lo (ms++b)
 |[],_,_,h,_=>h
 |_::_,_,⟨⟨r,i,j,k,l,m⟩,n⟩,g,o=>by
  refine⟨⟨r,i,cH c j,k,l,?_⟩,Marks.app c n g o⟩;intro f hd' e;rcases hN.1 hd' with hd'|hd'
  ·exact m f hd' e
  grind
def k3(B n:Nat)(h:aG)(H:af)(w:World)(a:Act)(Q:X→Fr→af→Prop)(e:Exit)(b:Act)(g:World):Prop:=
 ∃x d f c ms,e=X.exit' x∧nI B h H w c f g∧jI c d b.tmps∧b.tmps.size=n∧b.defers=ms++a.defers∧Marks c g w.heap.size ms∧Q x d f
def iQ(P:Program)(G B n:Nat)(rd:Bool)(c:Code)(F:Fr)(H:af)(Q:X→Fr→af→Prop):Prop:=
 ∀(b:aG) (a:Act) (w:World) (d:Option Nat),(rd=false→d=none)→a.tmps.size=n→Rel b H w→jI b F a.tmps→lu G b→G≤B→B≤H.next→c.wpIn (fw d) 0 P (k3 B n b H w a Q) a w
theorem k3.mono{B:Nat}{a:Act}{Q Q':X→Fr→af→Prop}(i:∀x F c,Q x F c→Q' x F c){e:Exit}{b:Act}{d:World}(t:k3 B h p c q a Q e b d):k3 B h p c q a Q' e b d:=
 let⟨x,f,g,u,ms,j,k,l,m,o,r,s⟩:=t;⟨x,f,g,u,ms,j,k,l,m,o,r,i _ _ _ s⟩
variable{m:Fr}
theorem k3.here{B:Nat}{a:Act}{Q:X→Fr→af→Prop}(x:X)(f:a.tmps.size=h)(g:Rel p c q)(e:jI p m a.tmps)(d:B≤c.next)(b:Q x m c):k3 B h p c q a Q x.exit' a q:=
 ⟨x,m,c,p,[],rfl,(Ext.refl g).ye d,e,f,rfl,trivial,b⟩
theorem k3.after{B:Nat}{f:aG}{H:af}{b:World}{a i:Act}{ms:List Deferred}(k:nI B p H q f c b)(E:i.defers=ms++a.defers)(l:Marks f b q.heap.size ms){Q:X→Fr→af→Prop}{e:Exit}{g:Act}{m:World}(A:k3 B h f c b i Q e g m):k3 B h p H q a Q e g m:=by
 obtain⟨x,o,s,C,z,t,j,g3,u,D,v,bh⟩:=A;refine⟨x,o,s,C,z++ms,t,k.trans j,g3,u,by grind,Marks.app k.size v (l.ext j) (fun d w r y=>(l.lt d w r y).2),bh⟩
section
variable {B n:Nat}{rd:Bool}{F:Fr}{H:af}{Q Q':X→Fr→af→Prop}
theorem iQ.mono{c:Code}(k:∀x F H,Q x F H→Q' x F H)(h:iQ P G B n rd c F H Q):iQ P G B n rd c F H Q':=fun _ _ _ _ b d e f g i j=>wpIn_mono (h _ _ _ _ b d e f g i j) fun _ _ _=>k3.mono k
theorem DA(h:Q .norm F H):iQ P G B n rd .skip F H Q:=fun _ _ _ _ _ a b c _ _ d=>wpIn_skip (k3.here .norm a b c d h)
theorem Du(h:Q .norm F H):iQ P G B n rd (.label a) F H Q:=fun _ _ _ _ _ b c d _ _ e=>wpIn_label (k3.here .norm b c d e h)
theorem Dx(h:Q .ret F H):iQ P G B n rd .ret F H Q:=fun _ _ _ _ _ a b c _ _ d=>wpIn_ret (k3.here .ret a b c d h)
theorem Dt{id:Nat}(h:Q (.exit id) F H):iQ P G B n rd (.exit id) F H Q:=fun _ _ _ _ _ a b c _ _ d=>wpIn_exit (k3.here (.exit id) a b c d h)
def fD(K:Fr→af→Prop)(Q:X→Fr→af→Prop):X→Fr→af→Prop
 |.norm,F,H=>K F H
 |x,F,H=>Q x F H
theorem Dz{k l:Code}(h:iQ P G B n rd k F H (fD (fun q r=>iQ P G B n rd l q r Q) Q)):iQ P G B n rd (.seq k l) F H Q:=by
 intro C a w z m s t u o g v;refine wpIn_seq (wpIn_mono (h _ _ _ _ m s t u o g v) ?_);rintro e y A ⟨x,i,j,p,ms,rfl,b,g3,c,d,f,bh⟩;cases x with
 |norm=>exact wpIn_mono (bh _ _ _ _ m c b.rel g3 (o.ext g b) g b.next) fun _ _ _=>k3.after b d f
 |exit id=>exact⟨.exit id,i,j,p,ms,rfl,b,g3,c,d,f,bh⟩
 |ret=>exact⟨.ret,i,j,p,ms,rfl,b,g3,c,d,f,bh⟩
variable{k:Operand}
theorem Aw{c d:Code}{f:Fr→V}{t:Bool}(r:uk G n k=true)(q:hH k=some f)(p:f F=.bool t)(h:iQ P G B n rd (if t then c else d) F H Q):iQ P G B n rd (.cond k c d) F H Q:=by
 intro v a w s i j l e g o m;have b:=P_ e g (by grind [GI]) q;rw[p]at b;refine wpIn_cond (t:=t) ?_ (h _ _ _ _ i j l e g o m);generalize a.eval k=u at b
 cases b;rfl
def iY(id:Nat)(Q:X→Fr→af→Prop):X→Fr→af→Prop
 |.exit i,F,H=>if i=id then Q .norm F H else Q (.exit i) F H
 |x,F,H=>Q x F H
theorem Ds{id:Nat}{c:Code}(h:iQ P G B n rd c F H (iY id Q)):iQ P G B n rd (.block id c) F H Q:=by
 intro q a w A r s t u v z y;refine wpIn_block (wpIn_mono (h _ _ _ _ r s t u v z y) ?_);rintro e o p ⟨x,b,d,m,ms,rfl,f,g3,g,j,k,bh⟩;cases x with
 |norm=>exact⟨.norm,b,d,m,ms,rfl,f,g3,g,j,k,bh⟩
 |ret=>exact⟨.ret,b,d,m,ms,rfl,f,g3,g,j,k,bh⟩
 |exit i=>
  show(if i=id then k3 B n q H w a Q .normal o p else k3 B n q H w a Q (.exit i) o p);have l:if i=id then Q .norm b d else Q (.exit i) b d:=bh
  by_cases hi:i=id
  ·rw[ao hi]at l⊢;exact⟨.norm,b,d,m,ms,rfl,f,g3,g,j,k,l⟩
  ·rw[aj hi]at l⊢;exact⟨.exit i,b,d,m,ms,rfl,f,g3,g,j,k,l⟩
theorem Dv{c:Code}(I:Nat→Fr→af→Prop)(Y:∀k F H,I k F H→iQ P G B n rd c F H (fD (fun f g=>∃m,m<k∧I m f g) Q)){k:Nat}(L:I k F H):iQ P G B n rd (.loop c) F H Q:=by
 intro A a w ro M N O R S z T;refine asf (fun k i v=>∃f g o ms,I k f g∧nI B A H w o g v∧jI o f i.tmps∧i.tmps.size=n∧i.defers=ms++a.defers∧Marks o v w.heap.size ms) ?_ (k:=k) ⟨F,H,A,[],L,(Ext.refl O).ye T,R,N,rfl,trivial⟩;rintro k i v ⟨f,g,o,ms,D,b,E,J,ab,y⟩;refine wpIn_mono (Y k f g D _ _ _ _ M J b.rel E (S.ext z b) z b.next) ?_
 rintro e C Z ⟨x,p,q,l,h,rfl,j,g3,s,ac,K,bh⟩;have u:Marks l Z w.heap.size (h++ms):=Marks.app b.size K (y.ext j) (fun d V r X=>(y.lt d V r X).2);have t:C.defers=(h++ms)++a.defers:=by grind
 cases x with
 |norm=>
  obtain⟨m,W,U⟩:=bh;exact⟨m,W,p,q,l,h++ms,U,b.trans j,g3,s,t,u⟩
 |exit id=>exact⟨.exit id,p,q,l,h++ms,rfl,b.trans j,g3,s,t,u,bh⟩
 |ret=>exact⟨.ret,p,q,l,h++ms,rfl,b.trans j,g3,s,t,u,bh⟩
theorem Dw(hT:cT P T)(b5:jV P N)(gb:P.follows .mixedOrders=true){id:Nat}{b:Array Oper}{c:Bool}{l:List c6}(u:l5 (ny G n) b.toList=true)(v:plan N T b.toList c=some l)(h:gI P G l F H (Q .norm)):iQ P G B n rd (.region id b c) F H Q:=by
 intro E a w C z d p q r A s;refine apn hT b5 gb (by rw[d];exact fun o t=>uc.1 u o t) p q r v h ?_;intro x y D e f g i j k m;exact⟨.norm,e,f,x,[],rfl,g.ye s,i,j.trans d,k,trivial,m⟩
theorem Dy{c:Code}(h:iQ P G B n false c F H Q):iQ P G B n false (.scope c) F H Q:=by
 intro t a w r i j k l m p o;cases i rfl;refine(wpIn_wide (n:=0)).2 (wp_scope_straight ((wpIn_wide (n:=0)).1 (wpIn_mono (h _ _ _ _ (fun _=>rfl) j k l m p o) ?_)));rintro e q s ⟨x,b,d,f,ms,rfl,g⟩;cases x with
 |norm=>exact⟨.norm,b,d,f,ms,rfl,g⟩
 |exit id=>exact⟨.exit id,b,d,f,ms,rfl,g⟩
 |ret=>exact⟨.ret,b,d,f,ms,rfl,g⟩
end
theorem au5(a:Rel p c q)(x:Obj):Ext p c q p c (q.alloc x):=by
 have k:∀ {d:Nat},d<q.heap.size→(q.alloc x).heap[d]? =q.heap[d]? :=by
  intro d h;show(q.heap.push x)[d]? =_;simp[Array.getElem?_push,Nat.ne_of_lt h]
 have y:(q.alloc x).heap.size=q.heap.size+1:=by show(q.heap.push x).size=_;simp
 have m:∀ {d i:Nat},d<q.heap.size→(q.alloc x).cell? ⟨d,i,none⟩=q.cell? ⟨d,i,none⟩:=by
  intro d i h;unfold World.cell?;rw[k h]
 have u:∀ {d i:Nat},d<q.heap.size→(q.alloc x).frozen? ⟨d,i,none⟩=q.frozen? ⟨d,i,none⟩:=by
  intro d i h;unfold World.frozen?;rw[k h]
 refine⟨⟨?_,?_,a.len,a.inj,a.top,?_,a.mem,a.mG,?_,fun e=>(a.fH e).keep (k (a.fH e).lt) (a.fH e).off,a.mJ⟩,aG.le_refl p,fun f j=>absurd (f.symm.trans j) aE,fun _ _ _=>rfl,aF _,fun h _=>k h,aa,hU.alloc q x,fun f j=>⟨j,k (a.loc f)⟩,fun _ _ e=>.inl e⟩
 ·intro b l w g i v f j n r;rw[m (a.loc f)];exact a.cell f j n r
 ·intro b l i f j;rw[m (a.loc f),u (a.loc f)];exact a.room f j
 ·intro b l f;have:=a.loc f;omega
 ·intro b l o f j;obtain⟨s,t⟩:=a.cl f j;exact⟨s,t.mono (aG.le_refl p) (k (a.loc f))⟩
theorem ag5(d:Rel p c q)(n:∀b l,p b=some l→l.c≠a)(D:∀m t r,q.heap[a]? ≠some (.cells m t r))(x:Obj):Rel p c (j9 q a x):=by
 have E:(j9 q a x).heap.size=q.heap.size:=by simp[j9]
 have s:∀ {j i:Nat},j≠a→(j9 q a x).cell? ⟨j,i,none⟩=q.cell? ⟨j,i,none⟩:=by
  intro j i h;unfold World.cell?;grind [nA]
 have C:∀ {j i:Nat},j≠a→(j9 q a x).frozen? ⟨j,i,none⟩=q.frozen? ⟨j,i,none⟩:=by
  intro j i h;unfold World.frozen?;grind [nA]
 refine⟨?_,?_,d.len,d.inj,d.top,?_,d.mem,d.mG,?_,fun{j y} e=>(d.fH e).keep (nA (fun u=>by
  obtain⟨m,t,r,k⟩:=(d.fH e).kind;refine D m t r ?_;rw[u,←k];exact(d.fH e).obj) x) (d.fH e).off,d.mJ⟩
 ·intro b l m g i v f k w z;rw[s (n b l f)];exact d.cell f k w z
 ·intro b l i f k;rw[s (n b l f),C (n b l f)];exact d.room f k
 ·intro b l f;rw[E];exact d.loc f
 ·intro b l o f k;obtain⟨A,B⟩:=d.cl f k;exact⟨A,B.mono (aG.le_refl p) (nA (fun e=>n b l f e.symm) x)⟩
theorem ahB:∀(a:List V) (i:Nat) (F:Fr) (t:Nat),(lV a i F).get V.undef t=if i≤t∧t<i+a.length then(a[t-i]?).getD V.undef else F.get V.undef t:=by
 intro a;induction a with
 |nil=>intro i F t;rw[aj aE];rfl
 |cons v a b=>
  intro i F t;show(lV a (i+1) (F.set V.undef i v)).get V.undef t=_;rw[b,aN.aK]
  grind
def xS(tmps:Array Value):ResultVar→Sem Value
 |.tmp t=>pure (tmps.getD t undef)
 |.cell a t=>do loadVar t (←asAddr (tmps.getD a undef))
theorem apS(a:Addr)(w:World):(asAddr (.pointer (some a))).run P w=.ok a w:=rfl
variable{b:List V}
theorem apv(hT:cT P T){tmps:Array Value}(J:Rel p c q)(z:jI p m tmps){i:Func}(n:∀x∈i.results.toList,Hh tmps.size x=true)(h:rN T m c i.results.toList=some b):
 ∃k,(results i tmps).run P q=.ok k q∧aL p (oH b) k:=by
 have key:∀(f:List ResultVar),(∀x∈f,Hh tmps.size x=true)→∀b,rN T m c f=some b→∃d,(f.mapM (xS tmps)).run P q=.ok d q∧bp p b d:=by
  intro f;induction f with
  |nil=>intro _ b h;cases h;exact⟨[],rfl,.nil⟩
  |cons x f M=>
   intro n b h;obtain⟨v,j,h⟩:=av.1 (show an (Hi T m c x) (fun v=>an (rN T m c f) fun r=>some (v::r))=some b from h);obtain⟨N,I,h⟩:=av.1 h;cases h;obtain⟨d,u,l⟩:=M (fun y L=>n y (by simp[L])) N I;have A:=n x aE;cases x with
   |tmp t=>
    cases j;refine⟨tmps.getD t undef::d,?_,.cons (z t ((fB _ _).1 A)) l⟩;rw[List.mapM_cons];simp only[xS,eg,fZ,eH];rw[u];rfl
   |cell a t=>
    obtain⟨g,G,j⟩:=av.1 (show an (T.isAgg t) _=some v from j);obtain⟨s,K,j⟩:=av.1 j;obtain⟨O,C,k,D,E⟩:=Pp hT J G K (z a ((fB _ _).1 A)) j;refine⟨k::d,?_,.cons E l⟩;rw[List.mapM_cons];have Q:(xS tmps (.cell a t)).run P q=.ok k q:=by
     simp only[xS,eg,C,apS,eH,D]
    simp_all
 obtain⟨d,u,l⟩:=key _ n b h;have R:(i.results.mapM (xS tmps)).run P q=.ok ⟨d⟩ q:=by
  rw[Array.mapM_eq_mapM_toList];simp only[Sem.run_map,u,eH]
 refine⟨if h:(⟨d⟩:Array Value).size=1 then(⟨d⟩:Array Value)[0]else .tuple ⟨d⟩,?_,?_⟩
 ·have e:results i tmps=(do let w←i.results.mapM (xS tmps);pure (if h:w.size=1 then w[0]else .tuple w)):=rfl;simp_all
 ·cases l with
  |nil=>exact .aA .nil
  |cons a o=>cases o with
   |nil=>simpa [oH]using a
   |cons o B=>
    rw[dif_neg aE];exact .aA (.cons a (.cons o B))
theorem ami{p:Func}{tmps:Array Value}{φ:aG}{H H':af}{w:World}{R:Ending→World→Prop}{ψ:aG}{v:V}(I:∀a,Rel ψ H' a→∃g,(results p tmps).run P a=.ok g a∧aL ψ v g)(C:∀g a,Ext φ H w ψ H' a→aL ψ v g→R (.returned g) a):
 ∀(ms:List Deferred) (a:World),Ext φ H w ψ H' a→Marks ψ a w.heap.size ms→LeavesInM (fw none) 0 P p tmps R ms .returning a:=by
 intro ms;induction ms with
 |nil=>
  intro a f _;obtain⟨g,m,q⟩:=I a f.rel;exact⟨g,m,C g a f q⟩
 |cons d ms n=>
  rintro a f ⟨⟨r,m,q,h,s,A⟩,B⟩;have N:r<a.heap.size:=(Array.getElem?_eq_some_iff.1 h).1;refine⟨aE,.inl ⟨r,j9 a r (.deferred none),m,run_takeDeferred h,n _ ?_ ?_⟩⟩
  ·refine⟨ag5 f.rel s (fun K t M e=>by rw[h]at e;cases e) _,f.le,f.fresh,f.nX,f.next,?_,?_,f.same.trans (Hy h rfl aE _),fun{b l} o u=>let⟨j,k⟩:=f.jN o u;⟨j,(nA (fun e=>s b l (f.le b l o) e.symm) _).trans k⟩,f.nk⟩
   ·intro c D G;rw[nA aa];exact f.lY D G
   ·show w.heap.size≤(j9 a r (.deferred none)).heap.size;have:(j9 a r (.deferred none)).heap.size=a.heap.size:=by simp[j9]
    omega
  ·have key:∀(ms:List Deferred),(∀i∈ms,i.target≠ .collected r)→Marks ψ a w.heap.size ms→Marks ψ (j9 a r (.deferred none)) w.heap.size ms:=by
    intro ms;induction ms with
    |nil=>exact fun _ _=>trivial
    |cons L ms n=>
     rintro F ⟨⟨J,j,k,g3,x,y⟩,z⟩;refine⟨⟨J,j,k,?_,x,y⟩,n (fun i E=>F i (by simp[E])) z⟩
     grind [nA]
   exact key ms A B
variable{E:List Value}
theorem apw(h:bp p b E)(k:b.length≤a):jI p (lV b 0 .nil) ((⟨E⟩:Array Value)++uN (a-(⟨E⟩:Array Value).size) undef):=by
 have j:=h.length;intro t e;have d:((⟨E⟩:Array Value)++uN (a-(⟨E⟩:Array Value).size) undef).size=a:=by simp;omega
 show aL p ((lV b 0 aN.nil).get V.undef t) _;rw[ahB];rw[d]at e;by_cases c:t<b.length
 ·rw[ao aa];obtain⟨u,l,f,g,i⟩:=h.getD c;simp_all
 ·rw[aj aa,aN.get_nil];have:((⟨E⟩:Array Value)++uN (a-(⟨E⟩:Array Value).size) undef).getD t undef=undef:=by
   simp[Array.getElem?_append,(aa:¬t<E.length)];rw[Array.getElem?_replicate];split<;>rfl
  rw[this];exact .aA .nil
variable{A:FuncId}
theorem D4(hT:cT P T)(b5:jV P N){fn:Func}{g:Code}{Q:V→af→Prop}(J:N.get aJ A=some fn)(o:fn.body=some g)(a:and (sF G fn g) (bL (cn b) fn.ntmps)=true)
 (h:iQ P G c.next fn.ntmps false g (lV b 0 .nil) c fun x k d=>(∀id,x≠ .exit id)∧∃l,rN T k d fn.results.toList=some l∧Q (oH l) d):e4 P G (.fn A) b c Q:=by
 rw[cC,fB,gV]at a;obtain⟨a,K⟩:=a;unfold sF at a;rw[cC,cC]at a;obtain⟨L,ab,O⟩:=a;have p:=b5 A fn J;refine⟨⟨fn,g,p,o,by simpa using L⟩,?_⟩;intro j w f hr q m;have Z:=m.length;have R:((⟨f⟩:Array Value)++uN (fn.ntmps-(⟨f⟩:Array Value).size) undef).size=fn.ntmps:=by simp;omega
 refine(callsIn_wide (n:=0)).1 (callsIn_of_wp_marks (F:=fw none) p o trivial ?_ rfl);refine wpIn_mono (h j { tmps:=(⟨f⟩:Array Value)++uN (fn.ntmps-(⟨f⟩:Array Value).size) undef,defers:=[] } w none (fun _=>rfl) R hr (apw m K) q (q.next hr) (aF _)) ?_
 rintro e i s ⟨x,k,d,t,ms,rfl,u,g3,v,z,B,Y,l,C,D⟩;have E:i.defers=ms:=by rw[z];simp
 have r:LeavesInM (fw none) 0 P fn i.tmps (Post j c w Q) i.defers .returning s:=by
  rw[E];refine ami (ψ:=t) (H':=d) (v:=oH l) (φ:=j) (H:=c) (w:=w) ?_ ?_ ms s (u.full hr) B
  ·intro X M;exact apv hT M g3 (by rw[v];exact fun y U=>uc.1 O y U) C
  ·intro W X I S;exact⟨oH l,W,d,t,rfl,I,S,D⟩
 cases x with
 |norm=>exact r
 |ret=>exact r
 |exit id=>grind
end
section
variable {P:Program}{N:eT}{T:cc}{G:Nat}{O:jS}
def oL(P:Program)(G:Nat)(cf:jS):Prop:=∀ {t b H v a},cf t b H=some (v,a)→e4 P G t b H fun d c=>d=v∧c=a
theorem PU:oL P G qH:=fun h=>by cases h
def yB(P:Program)(G:Nat)(run:uY):Prop:=∀ {B n:Nat}{rd:Bool}{c:Code}{F:Fr}{H:af}{x:X}{a:Fr}{b:af},codeOk G n c=true→run n rd c F H=.ok x a b→
 iQ P G B n rd c F H fun f d e=>f=x∧d=a∧e=b
variable{m:Fr}{c:af}
theorem andThen_ok{r:iD}{k:Fr→af→iD}{x:X}(h:andThen r k=.ok x m c):(∃a b,r=.ok .norm a b∧k a b=.ok x m c)∨(r=.ok x m c∧x≠ .norm):=by
 cases r with
 |fail=>cases h
 |ok y a b=>
  cases y with
  |norm=>exact .inl ⟨a,b,rfl,h⟩
  |exit id=>cases h;grind
  |ret=>cases h;grind
variable{I:af}{e:Fr→af→Prop}
theorem aqN{cf:jS}(z:oL P G cf){s:Step}{a:Fr}(h:exec cf s m c=some (a,I))(d:e a I):jw P G s m c e:=by
 cases f:s.want m with
 |none=>unfold exec at h;rw[f]at h;cases h
 |some b=>
  cases b with
  |false=>
   unfold exec at h;rw[f]at h;cases h;exact .inl ⟨f,d⟩
  |true=>
   refine .inr ⟨f,?_⟩;have C:=h;unfold exec at h;rw[f]at h;cases j:s.cop with
   |call i g=>
    have p:an (g (vals i m)) (fun k=>an (cf k.1 k.2 c) fun r=>some (put m s.dst r.1,r.2))=some (a,I):=by simpa [j]using h
    obtain⟨⟨t,l⟩,q,u⟩:=av.1 p;obtain⟨⟨v,A⟩,w,y⟩:=av.1 u;cases y;exact⟨t,l,q,(z w).mono fun D B ⟨n,o⟩=>by rw[n,o];exact d⟩
   |mO x=>simp[j]at h
   |bad=>simp[j]at h
   |pu i g=>exact⟨a,I,by unfold exec;simp_all,d⟩
   |rd i g=>exact⟨a,I,by unfold exec;simp_all,d⟩
   |gK i g=>exact⟨a,I,by unfold exec;simp_all,d⟩
theorem apU{cf:jS}(g:oL P G cf):∀ {l:List c6}{F a:Fr}{H b:af}{Q:Fr→af→Prop},sZ cf l F H=some (a,b)→Q a b→gI P G l F H Q:=by
 intro l;induction l with
 |nil=>intro F a H b Q h c;cases h;exact c
 |cons i l f=>
  intro F a H b Q h c;cases i with
  |ex s=>
   obtain⟨⟨j,k⟩,d,e⟩:=av.1 (show an (exec cf s F H) (fun r=>sZ cf l r.1 r.2)=some (a,b)from h);exact aqN g d (f e c)
  |re s=>
   obtain⟨d,e⟩:=cL.1 (show aQ (again s F H) (sZ cf l F H)=some (a,b)from h);exact⟨S7 d,f e c⟩
variable{A:FuncId}{b:List V}
theorem T1(hT:cT P T)(b5:jV P N){run:uY}(p:yB P G run){v:V}(h:D3 G N T run A b c=some (v,I)):e4 P G (.fn A) b c fun q a=>q=v∧a=I:=by
 obtain⟨d,o,h⟩:=av.1 (show an (N.get aJ A) _=some (v,I)from h);obtain⟨g,m,h⟩:=av.1 h;obtain⟨i,h⟩:=cL.1 h;have j:=i;rw[cC]at j;have n:codeOk G d.ntmps g=true:=by
  have:=j.1;unfold sF at this;rw[cC,cC]at this;exact this.2.1
 cases e:run d.ntmps false g (lV b 0 .nil) c with
 |fail=>rw[e]at h;cases h
 |ok x s t=>
  rw[e]at h;refine D4 hT b5 o m i ((p n e).mono ?_);rintro r f a ⟨rfl,rfl,rfl⟩;cases r with
  |exit id=>cases h
  |norm=>
   obtain⟨l,hl,k⟩:=av.1 (show an (rN T f a d.results.toList) (fun l=>some (oH l,a))=some (v,I)from h)
   grind
  |ret=>
   obtain⟨l,hl,k⟩:=av.1 (show an (rN T f a d.results.toList) (fun l=>some (oH l,a))=some (v,I)from h)
   grind
theorem Kf(hT:cT P T)(b5:jV P N)(e:oL P G O){run:uY}(g:yB P G run):oL P G (wW G N T O run):=by
 intro t a H v d h
 have b:Option.casesOn (motive:=fun _=>Option (V×af)) (O t a H)
  (oU.casesOn (motive:=fun _=>Option (V×af)) t (fun f=>D3 G N T run f a H)) some=some (v,d):=h
 cases c:O t a H with
 |some r=>
  rw[c]at b;cases b;exact e c
 |none=>
  rw[c]at b;cases t with
  |fn f=>grind [T1]
theorem apT(hT:cT P T)(b5:jV P N)(W:oL P G O)(gb:P.follows .mixedOrders=true):∀a,yB P G (run G N T O a):=by
 intro a;induction a using jG with
 |_ a R=>
  cases a with
  |zero=>intro B n rd c F H x g j _ h;cases h
  |succ a=>
   have o:yB P G (run G N T O a):=R a aa;intro B n rd c F H x g j v h;have X:oL P G (wW G N T O (run G N T O a)):=Kf hT b5 W o;cases c with
   |skip=>cases h;grind [DA]
   |region id S L=>
    have b:QV (an (plan N T S.toList L) fun l=>sZ (wW G N T O (run G N T O a)) l F H)=.ok x g j:=h;cases I:an (plan N T S.toList L) (fun l=>sZ (wW G N T O (run G N T O a)) l F H)with
    |none=>rw[I]at b;cases b
    |some q=>
     rw[I]at b;cases b;obtain⟨l,Z,E⟩:=av.1 I;exact Dw hT b5 gb v Z (apU X E ⟨rfl,rfl,rfl⟩)
   |seq s u=>
    have k:and (codeOk G n s) (codeOk G n u)=true:=v;rw[cC]at k;refine Dz ?_;rcases andThen_ok (show andThen (run G N T O a n rd s F H) (run G N T O a n rd u)=.ok x g j from h)with⟨w,A,p,d⟩|⟨p,d⟩
    ·refine(o k.1 p).mono ?_;rintro r z C ⟨rfl,rfl,rfl⟩;exact o k.2 d
    ·refine(o k.1 p).mono ?_;rintro r z C ⟨rfl,rfl,rfl⟩;cases r with
     |norm=>exact absurd rfl d
     |exit id=>exact⟨rfl,rfl,rfl⟩
     |ret=>exact⟨rfl,rfl,rfl⟩
   |cond y s u=>
    have k:and (uk G n y) (and (codeOk G n s) (codeOk G n u))=true:=v;rw[cC,cC]at k;have b:Hw (run G N T O a n rd) y s u F H=.ok x g j:=h;unfold Hw at b;cases K:hH y with
    |none=>rw[K]at b;cases b
    |some f=>
     rw[K]at b;have d:(match f F with|.bool t=>Bool.casesOn (motive:=fun _=>iD) t (run G N T O a n rd u F H) (run G N T O a n rd s F H)|_=>.fail)=.ok x g j:=b;cases M:f F<;>rw[M]at d<;>first|(cases d;done)|skip
     rename_i t;refine Aw k.1 K M ?_;cases t with
     |true=>exact o k.2.1 d
     |false=>exact o k.2.2 d
   |block id c=>
    have b:OK id (run G N T O a n rd c F H)=.ok x g j:=h;have D:codeOk G n c=true:=v;refine Ds ?_;cases J:run G N T O a n rd c F H with
    |fail=>rw[J]at b;cases b
    |ok y w A=>
     rw[J]at b;refine(o D J).mono ?_;rintro r z C ⟨rfl,rfl,rfl⟩;cases r with
     |norm=>cases b;exact⟨rfl,rfl,rfl⟩
     |ret=>cases b;exact⟨rfl,rfl,rfl⟩
     |exit i=>
      have d:Bool.casesOn (motive:=fun _=>iD) (bn i id) (.ok (.exit i) z C) (.ok .norm z C)=iD.ok x g j:=b;show if i=id then _ else _
      by_cases Y:i=id
      ·simp_all
      ·rw[lq.2 (fun e=>Y ((beq_eq _ _).1 e))]at d
       grind
   |loop c=>
    have D:codeOk G n c=true:=v;refine Dv (fun m w A=>m≤a+1∧run G N T O m n rd (.loop c) w A=.ok x g j) ?_ (k:=a+1) ⟨aF _,h⟩;rintro m w A ⟨hm,E⟩;cases m with
    |zero=>cases E
    |succ m=>
     have Q:yB P G (run G N T O m):=R m aa;rcases andThen_ok (show andThen (run G N T O m n rd c w A) (run G N T O m n rd (.loop c))=.ok x g j from E)with⟨z,C,p,d⟩|⟨p,d⟩
     ·refine(Q D p).mono ?_;rintro r U V ⟨rfl,rfl,rfl⟩;exact⟨m,aa,aa,d⟩
     ·refine(Q D p).mono ?_;rintro r U V ⟨rfl,rfl,rfl⟩;cases r with
      |norm=>exact absurd rfl d
      |exit id=>exact⟨rfl,rfl,rfl⟩
      |ret=>exact⟨rfl,rfl,rfl⟩
   |rangeFunc _ _ _ _=>cases h
   |exit id=>cases h;grind [Dt]
   |label l=>cases h;grind [Du]
   |ret=>cases h;grind [Dx]
   |scope c=>
    cases rd with
    |true=>cases h
    |false=>exact Dy (o (show codeOk G n c=true from v) (show run G N T O a n false c F H=.ok x g j from h))
   |goto _=>cases h
   |refuse _=>cases h
theorem Kj(hT:cT P T)(b5:jV P N)(b:oL P G O)(gb:P.follows .mixedOrders=true)(a:Nat):oL P G (D2 G N T O a):=Kf hT b5 b (apT hT b5 b gb a)
end
variable{f:Type}
theorem arh:∀(l:List f) (k:Nat) (t:aN (Option f)) (i:Nat),(wg l k t).get none i=if k≤i∧i<k+l.length then l[i-k]? else t.get none i:=by
 intro l;induction l with
 |nil=>intro k t i;rw[aj aE];rfl
 |cons a l b=>
  intro k t i;show(wg l (k+1) (t.set none k (some a))).get none i=_;rw[b,aN.aK]
  grind
variable{a:Nat}
theorem R0{l:List f}{x:f}(h:(wg l 0 .nil).get none a=some x):l[a]? =some x:=by
 grind [arh,aN.get_nil]
theorem ahy(P:Program):jV P (Oa P):=by
 intro f a h;have:=R0 (show(wg P.funcs.toList 0 .nil).get none f=some a from h);simpa using this
theorem arC(P:Program){a:TypeId→Option (List TypeDesc)}(d:∀t ds,a t=some ds→Dm P t ds):cT P (R7 P a):=by
 refine⟨?_,d⟩;intro t i h;have b:=R0 (show(wg P.types.toList 0 .nil).get none t=some i from h);have c:P.types[t]? =some i:=by simpa using b
 have e:t<P.types.size:=(Array.getElem?_eq_some_iff.1 c).1;unfold Tables.info?
 grind
def aG.view(a:aG)(c:Nat→Nat)(k:Nat):aG:=⟨fun b=>if b<k then a (c b)else none,a.im⟩
variable{p:aG}{h:Nat}
theorem aG.Sn{b:Nat→Nat}:p.view b a h=if h<a then p (b h)else none:=rfl
theorem aG.nF{b:Nat→Nat}{l:Loc}(c:p.view b a h=some l):h<a∧p (b h)=some l:=by
 grind [aG.Sn]
theorem aG.th{b:Nat→Nat}{l:Loc}(d:h<a)(c:p (b h)=some l):p.view b a h=some l:=by
 simp_all [aG.Sn,ao]
mutual
inductive g7 (σ:Nat→Nat) (k:Nat):V→V→Prop
 |bool (b:Bool):g7 σ k (.bool b) (.bool b)
 |int (i:IntKind) (n:Int):g7 σ k (.int i n) (.int i n)
 |str (s:List UInt8):g7 σ k (.str s) (.str s)
 |ptr {b:Nat} (o:Nat) (h:b<k):g7 σ k (.ptr (σ b) o) (.ptr b o)
 |ja:g7 σ k .ja .ja
 |slice {b:Nat} (o len:Nat) (cap:Cap) (h:b<k):g7 σ k (.slice (σ b) o len cap) (.slice b o len cap)
 |aqw {b:Nat} (o len:Nat) (cap:Cap) (h:b<k):g7 σ k (.slice (σ b) o len cap) (.slice b o len .nx)
 |ak:g7 σ k .ak .ak
 |emp:g7 σ k .emp .emp
 |map {b:Nat} (h:b<k):g7 σ k (.map (σ b)) (.map b)
 |j6:g7 σ k .j6 .j6
 |func (f:FuncId) {xs ys xs' ys':List V} (h1:jZ σ k xs xs') (h2:jZ σ k ys ys'):g7 σ k (.func f xs ys) (.func f xs' ys')
 |kM:g7 σ k .kM .kM
 |kN:g7 σ k .kN .kN
 |agg {xs xs':List V} (h:jZ σ k xs xs'):g7 σ k (.agg xs) (.agg xs')
 |aA {xs xs':List V} (h:jZ σ k xs xs'):g7 σ k (.aA xs) (.aA xs')
 |any (v:V):g7 σ k v .any
 |cell {v:V} (h:v.one=true):g7 σ k v .cell
 |row (n:Nat) {cs cs':List V} (h:jZ σ k cs cs'):g7 σ k (.row n cs) (.row n cs')
 |fL:g7 σ k .ak (.row 0 [])
 |Ct:g7 σ k .emp (.row 0 [])
 |Cs:g7 σ k .gT (.row 0 [])
 |dh (j:Nat) {cs cs':List V} (h:jZ σ k cs cs'):g7 σ k (.dh cs j) (.dh cs' j)
 |gT:g7 σ k .gT .gT
inductive jZ (σ:Nat→Nat) (k:Nat):List V→List V→Prop
 |nil:jZ σ k [] []
 |cons {v v':V}{vs vs':List V} (h:g7 σ k v v') (h':jZ σ k vs vs'):jZ σ k (v::vs) (v'::vs')
end
mutual
theorem aL.view{φ:aG}{σ:Nat→Nat}{k:Nat}:∀ {v v2:V}{v':Value},g7 σ k v v2→aL φ v v'→aL (φ.view σ k) v2 v'
 |_,_,_,.bool b,.bool _=>.bool b
 |_,_,_,.int i n,.int _ _=>.int i n
 |_,_,_,.str s,.str _=>.str s
 |_,_,_,.ptr o h,.ptr e=>.ptr (aG.th h e)
 |_,_,_,.ja,.ja=>.ja
 |_,_,_,.slice o len cap h,.slice e h1 h2=>.slice (aG.th h e) h1 h2
 |_,_,_,.aqw o len cap h,.slice e h1 _=>.slice (aG.th h e) h1 trivial
 |_,_,_,.ak,.ak=>.ak
 |_,_,_,.emp,.emp a c=>.emp a c
 |_,_,_,.map h,.map e=>.map (aG.th h e)
 |_,_,_,.j6,.j6=>.j6
 |_,_,_,.func f h1 h2,.func _ g1 g2=>.func f (bp.view h1 g1) (bp.view h2 g2)
 |_,_,_,.kM,.kM=>.kM
 |_,_,_,.kN,.kN=>.kN
 |_,_,_,.agg h,.agg g=>.agg (bp.view h g)
 |_,_,_,.aA h,.aA g=>.aA (bp.view h g)
 |_,_,v',.any _,_=>.any v'
 |_,_,_,.cell h,g=>.cell (P6 g h)
 |_,_,_,.row _ .nil,.fj a c h=>.fj a c h
 |_,_,_,.row _ h,.row e g1 g2 g3=>.row e (bp.view h g1) g2 g3
 |_,_,_,.fL,.ak=>.fj none 0 (fun _=>rfl)
 |_,_,_,.Ct,.emp a c=>.fj (some a) c (fun h=>by cases h)
 |_,_,_,.Cs,.gT a=>.fj a 0 (fun _=>rfl)
 |_,_,_,.dh _ h,.dh e g1 g2=>.dh e (bp.view h g1) g2
 |_,_,_,.gT,.gT a=>.gT a
theorem bp.view{φ:aG}{σ:Nat→Nat}{k:Nat}:∀ {a b:List V}{c:List Value},jZ σ k a b→bp φ a c→bp (φ.view σ k) b c
 |_,_,_,.nil,.nil=>.nil
 |_,_,_,.cons h h',.cons g g'=>.cons (aL.view h g) (bp.view h' g')
end
section
variable {P:Program}{G B n:Nat}{rd:Bool}{c:Code}{F Db:Fr}{H H2:af}{Q:X→Fr→af→Prop}
end
section
variable {G:Nat}{σ:Nat→Nat}{φ ψ:aG}{H H2 H':af}{w w':World}
end
section
variable {P:Program}{G:Nat}
end
def tj(n:Nat):V→V→Bool:=
 Nat.rec (motive:=fun _=>V→V→Bool) (fun _ _=>false) (fun _ c a b=>match a with
  |.any=>(match b with|.any=>true|_=>false)
  |.cell=>(match b with|.cell=>true|_=>false)
  |.func f x y=>(match b with|.func g z t=>and (bn f g) (and (e8 c x z) (e8 c y t))|_=>false)
  |.agg x=>(match b with|.agg y=>e8 c x y|_=>false)
  |.aA x=>(match b with|.aA y=>e8 c x y|_=>false)
  |a=>rX 1 a b) n
theorem Sp:∀n a b,tj n a b=true→a=b:=by
 intro n;induction n with
 |zero=>intro a b h;cases h
 |succ n c=>
  intro a b h;cases a<;>first|exact Ig 1 _ _ h|skip
  case any=>cases b<;>first|rfl|cases h
  case cell=>cases b<;>first|rfl|cases h
  case func f x y=>
   cases b<;>first|(cases h;done)|skip
   have d:and (bn _ _) (and (e8 (tj n) _ _) (e8 (tj n) _ _))=true:=h;rw[cC,cC,beq_eq]at d
   grind [pA]
  case agg x=>
   cases b<;>first|(cases h;done)|skip
   rw[pA c _ _ h]
  case aA x=>
   cases b<;>first|(cases h;done)|skip
   rw[pA c _ _ h]
def GF(a b:Option Nat):Bool:=match a with
 |some x=>(match b with|some y=>bn x y|_=>false)
 |.none=>(match b with|.none=>true|_=>false)
variable{i:Option Nat}
theorem an4{a:Option Nat}(h:GF a i=true):a=i:=by
 cases a<;>cases i<;>first|rfl|(cases h;done)|skip
 exact congrArg some ((beq_eq _ _).1 h)
variable{d:List Nat}
theorem ann{a:List Nat}(h:e8 bn a d=true):a=d:=pA (fun _ _ h=>(beq_eq _ _).1 h) _ _ h
abbrev xb:Nat:=12
def Qe(a b:om):Bool:=match a with
 |.map e=>(match b with|.map f=>e8 (fun x y=>and (tj xb x.1 y.1) (tj xb x.2 y.2)) e f|_=>false)
 |.iter m s l c t=>(match b with|.iter h i g d j=>and (and (bn m h) (bn s i)) (and (e8 bn l g) (and (GF c d) (bn t j)))|_=>false)
 |.ro _=>false
theorem aoa{a b:om}(h:Qe a b=true):a=b:=by
 cases a<;>cases b<;>first|(cases h;done)|skip
 case map.map k n=>
  refine congrArg om.map (pA (fun x y h=>?_) _ _ h);have d:and (tj xb x.1 y.1) (tj xb x.2 y.2)=true:=h;rw[cC]at d
  grind [Prod.ext,Sp]
 case iter.iter m s l c t g i f e j=>
  have d:and (and (bn m g) (bn s i)) (and (e8 bn l f) (and (GF c e) (bn t j)))=true:=h;rw[cC,cC,cC,cC,beq_eq,beq_eq,beq_eq]at d
  grind [ann,an4]
def u6(a b:cR):Bool:=match a with
 |.none=>(match b with|.none=>true|_=>false)
 |.cells c g=>(match b with|.cells d e=>and (bn g e) (e8 (tj xb) c d)|_=>false)
 |.bD x y=>(match b with|.bD h i=>and (bn x h) (bn y i)|_=>false)
 |.cl o=>(match b with|.cl f=>Qe o f|_=>false)
theorem DI{a b:cR}(h:u6 a b=true):a=b:=by
 cases a<;>cases b<;>first|rfl|(cases h;done)|skip
 case cells.cells d g e f=>
  have c:and (bn g f) (e8 (tj xb) d e)=true:=h;rw[cC,beq_eq]at c
  grind [pA,Sp]
 case bD.bD x y i j=>
  have c:and (bn x i) (bn y j)=true:=h;simp_all
 case cl.cl o k=>exact congrArg cR.cl (aoa h)
section
mutual
inductive bO (H H2:af):V→V→Prop
 |same (v:V):bO H H2 v v
 |any (v:V):bO H H2 v .any
 |row {b o n m:Nat}{cap:Cap}{cs jy:List V} (h:H.cP b o m=some cs) (h0:0<m) (h1:H2.get b=.none) (h2:cD H H2 cs jy):bO H H2 (.slice b o n cap) (.row n jy)
 |fj (b o:Nat) (cap:Cap):bO H H2 (.slice b o 0 cap) (.row 0 [])
 |fL:bO H H2 .ak (.row 0 [])
 |Ct:bO H H2 .emp (.row 0 [])
 |Cs:bO H H2 .gT (.row 0 [])
 |agg {xs ys:List V} (h:cD H H2 xs ys):bO H H2 (.agg xs) (.agg ys)
 |aA {xs ys:List V} (h:cD H H2 xs ys):bO H H2 (.aA xs) (.aA ys)
inductive cD (H H2:af):List V→List V→Prop
 |nil:cD H H2 [] []
 |cons {x y:V}{xs ys:List V} (h:bO H H2 x y) (h':cD H H2 xs ys):cD H H2 (x::xs) (y::ys)
end
variable{I:af}
theorem cD.refl{H2:af}:∀l:List V,cD I H2 l l
 |[]=>.nil
 |v::l=>.cons (.same v) (cD.refl l)
def uO(φ:aG)(H H2:af)(w:World)(c:Nat):Prop:=∃b l,φ b=some l∧l.c=c∧H.get b≠ .none∧H2.get b=.none∧∃a t d,w.heap[c]? =some (.cells a t d)
open Classical in
def aG.dQ(φ:aG)(H H2:af)(w:World):aG:=⟨φ.f,fun c=>if uO φ H H2 w c then w.heap[c]? else φ.im c⟩
variable{q:World}
theorem FN{H2:af}(h:uO p I H2 q a):(p.dQ I H2 q).im a=q.heap[a]? :=ao h
theorem FO{H2:af}(h:¬uO p I H2 q a):(p.dQ I H2 q).im a=p.im a:=aj h
section
variable {P:Program}{φ:aG}{H H2:af}{w:World}
theorem vr(a:Rel φ H w):φ.le (φ.dQ H H2 w):=by
 refine⟨fun _ _ e=>e,fun c x e=>?_⟩;by_cases h:uO φ H H2 w c
 ·rw[FN h];exact(a.fH e).obj
 grind [FO]
structure Cut (B:Nat) (H H2:af):Prop where
 sub:∀y,H2.get y=H.get y∨(B≤y∧H2.get y=.none)
 next:H2.next=H.next
 bD:∀y y' cs cs' g,g≠0→H.get y=.cells cs g→H.get y'=.cells cs' g→H2.get y=.none→H2.get y'=.none
theorem Cut.old{B:Nat}(a:Cut B H H2){y:Nat}(h:H2.get y≠ .none):H2.get y=H.get y:=(a.sub y).resolve_right fun e=>h e.2
theorem Cut.low{B:Nat}(b:Cut B H H2)(h:a<B):H2.get a=H.get a:=(b.sub a).resolve_right fun e=>aa
theorem Rel.cut{B:Nat}(h:Rel φ H w)(f:Cut B H H2):Rel (φ.dQ H H2 w) H2 w:=by
 have G:=vr (H2:=H2) h;have s:∀ {y:Nat}{p:List V}{g:Nat},H2.get y=.cells p g→H.get y=.cells p g:=fun{y p g} e=>by rw[←f.old (y:=y) (by rw[e];simp)];exact e
 have A:∀ {y a b:Nat},H2.get y=.bD a b→H.get y=.bD a b:=fun{y a b} e=>by rw[←f.old (y:=y) (by rw[e];simp)];exact e
 refine⟨?_,h.room,fun j d=>h.len j (s d),?_,?_,h.loc,fun j d k=>h.mem (s j) d (A k),fun e=>h.mG (A e),?_,?_,fun e=>by rw[f.next];exact h.mJ (s e)⟩
 ·intro b l p g i v j d k u;have hl:H.fV b g=true:=by
   rcases gB.1 k with e|⟨a,c,K,L⟩
   ·exact gB.2 (.inl e)
   ·exact gB.2 (.inr ⟨a,c,A K,L⟩)
  obtain⟨U,m,n⟩:=h.cell j (s d) hl u;exact⟨U,m,n.mono G⟩
 ·intro b E l C j d k u;rcases h.inj j d k u with⟨p,J,g,m,n,r⟩|⟨T,D⟩
  ·by_cases q:H2.get b=.none
   ·exact .inr ⟨q,f.bD _ _ _ _ _ m n r q⟩
   ·have Q:H2.get E≠ .none:=fun e=>q (f.bD _ _ _ _ _ m r n e)
    exact .inl ⟨p,J,g,m,by rw[f.old q];exact n,by rw[f.old Q];exact r⟩
  ·refine .inr ⟨?_,?_⟩
   ·rcases f.sub b with e|e
    ·rw[e];exact T
    ·exact e.2
   ·rcases f.sub E with e|e
    ·rw[e];exact D
    ·exact e.2
 ·intro b q;rw[f.next]at q
  obtain⟨m,n⟩:=h.top q;refine⟨m,?_⟩;rcases f.sub b with e|e
  ·rw[e];exact n
  ·exact e.2
 ·intro b l o j d;have k:H.get b=.cl o:=by rw[←f.old (y:=b) (by rw[d];simp)];exact d
  obtain⟨M,N⟩:=h.cl j k;exact⟨M,N.mono G rfl⟩
 ·intro c x e;by_cases z:uO φ H H2 w c
  ·rw[FN z]at e;obtain⟨b,l,m,n,r,F,p,t,O,P⟩:=z;refine⟨e,⟨p,t,O,Option.some.inj (e.symm.trans P)⟩,?_⟩;intro y C j d;by_cases I:y=b
   ·subst I;exact F
   ·rcases h.inj j m (d.trans n.symm) I with⟨W,X,g,R,S,bB⟩|⟨_,D⟩
    ·exact f.bD _ _ _ _ _ R bB S F
    ·exact absurd D r
  ·rw[FO z]at e;refine(h.fH e).keep rfl ?_;intro y C j d;have:=(h.fH e).off y C j d;rcases f.sub y with k|k
   ·rw[k];exact this
   ·exact k.2
theorem Rel.xj{B:Nat}(h:Rel φ H w)(d:Cut B H H2)(q:B≤H.next):nI B φ H w (φ.dQ H H2 w) H2 w:=by
 refine⟨h.cut d,fun _ e=>e,?_,?_,by rw[d.next];exact q,fun _ _=>rfl,aF _,hU.refl w,?_,fun c x e=>(vr h).im c x e,?_,?_⟩
 rotate_left 3
 ·intro c x e;by_cases r:uO φ H H2 w c
  ·obtain⟨b,l,p,j,y,_⟩:=r
   grind
  grind [FO]
 ·intro b f l t k i _ m o;have n:φ f=some t:=m;have s:H.get f=.none:=by
   by_cases a:f=b
   ·rw[a];exact i
   ·rcases h.inj n k o a with⟨_,_,g,_,_,bB⟩|⟨u,_⟩
    ·rw[i]at bB;cases bB
    ·exact u
  rcases d.sub f with e|e
  ·rw[e];exact s
  ·exact e.2
 ·intro b l p j;have v:φ b=some l:=j
  grind
 ·intro b a _ _;exact d.low a
 ·intro b l a _ e;exact⟨by rw[d.low a];exact e,rfl⟩
mutual
theorem aL.dQ{B:Nat}(hr:Rel φ H w)(hc:Cut B H H2):∀ {v v2:V}{v':Value},bO H H2 v v2→aL φ v v'→aL (φ.dQ H H2 w) v2 v'
 |_,_,_,.same _,r=>r.mono (vr hr)
 |_,_,v',.any _,_=>.any v'
 |_,_,_,.fj _ _ _,.slice _ _ _=>.fj _ _ (fun h=>by cases h)
 |_,_,_,.fL,.ak=>.fj none 0 (fun _=>rfl)
 |_,_,_,.Ct,.emp a c=>.fj (some a) c (fun h=>by cases h)
 |_,_,_,.Cs,.gT a=>.fj a 0 (fun _=>rfl)
 |_,_,_,.agg h,.agg g=>.agg (bp.dQ hr hc h g)
 |_,_,_,.aA h,.aA g=>.aA (bp.dQ hr hc h g)
 |_,_,_,.row (cs:=cs) h h0 h1 h2,.slice (l:=l) hb hl hcap=>by
  obtain⟨vs',e1,e2,Be⟩:=xE hr hb h;have hlt:0<vs'.length:=aa;have hcell:=Be 0 _ (cx hlt);have BG:∃x,w.heap[l.c]? =some x∧∃cs t fr,x=.cells cs t fr:=by
   unfold World.cell? at hcell;cases ho:w.heap[l.c]? with
   |none=>grind
   |some x=>
    grind
  obtain⟨x,hx,cs0,t,fr,ai0⟩:=BG;have hne:H.get _≠ .none:=fun e=>by
   obtain⟨UU,k1,_⟩:=av.1 h;obtain⟨g,k2,_⟩:=cells?_some k1;rw[e]at k2;cases k2
  have hg:uO φ H H2 w l.c:=⟨_,l,hb,rfl,hne,h1,cs0,t,fr,by rw[hx,ai0]⟩;refine .row (by rw[FN hg];exact hx) (bp.dQ hr hc h2 e2) ?_ hl;intro i v hi w2 c2 avg;have:=Be i v hi;unfold World.cell? at this⊢
  grind
theorem bp.dQ{B:Nat}(hr:Rel φ H w)(hc:Cut B H H2):∀ {a b:List V}{c:List Value},cD H H2 a b→bp φ a c→bp (φ.dQ H H2 w) b c
 |_,_,_,.nil,.nil=>.nil
 |_,_,_,.cons h h',.cons g g'=>.cons (aL.dQ hr hc h g) (bp.dQ hr hc h' g')
end
end
section
variable {P:Program}{G B n:Nat}{rd:Bool}{c:Code}{F Db:Fr}{H H2:af}{Q:X→Fr→af→Prop}
theorem SU(b:Cut B H H2)(p:∀t,t<n→bO H H2 (F.get V.undef t) (Db.get V.undef t))(h:iQ P G B n rd c Db H2 Q):iQ P G B n rd c F H Q:=by
 intro φ a w r l f g m o j i;have d:=g.xj b i;refine wpIn_mono (h _ a w r l f d.rel (fun t k=>aL.dQ g b (p t (by rw[←f];exact k)) (m t k)) (o.ext j d) j (by rw[b.next];exact i)) ?_
 intro e s u q;exact k3.after (ms:=[]) d rfl trivial q
end
end
def af.zero(G:Nat):af:=⟨.nil,G⟩
theorem af.e7(G b:Nat):(af.zero G).get b=.none:=aN.get_nil _ _
mutual
inductive bA:V→Prop
 |bool (b:Bool):bA (.bool b)
 |int (k:IntKind) (n:Int):bA (.int k n)
 |str (s:List UInt8):bA (.str s)
 |ja:bA .ja
 |ak:bA .ak
 |emp:bA .emp
 |j6:bA .j6
 |func (f:FuncId) {xs ys:List V} (h1:bX xs) (h2:bX ys):bA (.func f xs ys)
 |kM:bA .kM
 |kN:bA .kN
 |agg {xs:List V} (h:bX xs):bA (.agg xs)
 |aA {xs:List V} (h:bX xs):bA (.aA xs)
 |any:bA .any
 |cell:bA .cell
 |row (n:Nat) {xs:List V} (h:bX xs):bA (.row n xs)
 |dh (k:Nat) {xs:List V} (h:bX xs):bA (.dh xs k)
 |gT:bA .gT
inductive bX:List V→Prop
 |nil:bX []
 |cons {v:V}{vs:List V} (h:bA v) (h':bX vs):bX (v::vs)
end
theorem bX.iff:∀ {l:List V},bX l↔∀v∈l,bA v
 |[]=>⟨fun _ v h=>by simp at h,fun _=>.nil⟩
 |v::l=>⟨fun h x hx=>by
   cases h with
   |cons h a=>
    rcases jr.1 hx with rfl|hx
    ·exact h
    ·exact bX.iff.1 a x hx,fun h=>.cons (h v aE) (bX.iff.2 fun x hx=>h x (by simp[hx]))⟩
mutual
theorem aL.free{φ ψ:aG}(hi:∀c x,φ.im c=some x→ψ.im c=some x):∀ {v:V}{v':Value},bA v→aL φ v v'→aL ψ v v'
 |_,_,.bool _,.bool b=>.bool b
 |_,_,.int _ _,.int k n=>.int k n
 |_,_,.str _,.str s=>.str s
 |_,_,.ja,.ja=>.ja
 |_,_,.ak,.ak=>.ak
 |_,_,.emp,.emp a c=>.emp a c
 |_,_,.j6,.j6=>.j6
 |_,_,.func _ h1 h2,.func f g1 g2=>.func f (bp.free hi h1 g1) (bp.free hi h2 g2)
 |_,_,.kM,.kM=>.kM
 |_,_,.kN,.kN=>.kN
 |_,_,.agg h,.agg g=>.agg (bp.free hi h g)
 |_,_,.aA h,.aA g=>.aA (bp.free hi h g)
 |_,v',.any,.any _=>.any v'
 |_,_,.cell,.cell h=>.cell h
 |_,_,.row _ _,.fj a c h=>.fj a c h
 |_,_,.row _ h,.row e g1 g2 g3=>.row (hi _ _ e) (bp.free hi h g1) g2 g3
 |_,_,.dh _ h,.dh e g1 g2=>.dh (hi _ _ e) (bp.free hi h g1) g2
 |_,_,.gT,.gT a=>.gT a
theorem bp.free{φ ψ:aG}(hi:∀c x,φ.im c=some x→ψ.im c=some x):∀ {a:List V}{c:List Value},bX a→bp φ a c→bp ψ a c
 |_,_,.nil,.nil=>.nil
 |_,_,.cons h h',.cons g g'=>.cons (aL.free hi h g) (bp.free hi h' g')
end
section
variable {P:Program}{G:Nat}{φ:aG}{H:af}{w:World}
theorem Rel.zero(a:Rel φ H w):Rel (φ.view id G) (af.zero G) w:=by
 have f:∀ {b:Nat}{o:cR},(af.zero G).get b=o→o=.none:=fun{b o} e=>by grind [af.e7]
 refine⟨?_,?_,?_,?_,?_,?_,?_,?_,?_,?_,?_⟩
 ·grind
 ·intro b l i e h;exact a.room (aG.nF e).2 h
 ·grind
 ·grind
 ·intro b d;refine⟨?_,af.e7 _ _⟩;exact aj (Nat.not_lt.2 (show G≤b from d))
 ·intro b l e;exact a.loc (aG.nF e).2
 ·grind
 ·grind
 ·grind
 ·intro c x e;exact(a.fH e).keep rfl fun _ _ _ _=>af.e7 _ _
 grind
variable{A:FuncId}{b:List V}
theorem pI{R:V→Prop}(U:bX b)
 (t:e4 P G (.fn A) b (af.zero G) fun K m=>∃v,bO m (af.zero m.next) K v∧bA v∧R v) (H:af):
 e4 P G (.fn A) b H fun v m=>R v∧m=H:=by
 refine⟨t.1,fun φ w M j hg W=>(t.2 (φ.view id G) w M j.zero ?_ (bp.free (φ:=φ) (ψ:=φ.view id G) (fun _ _ e=>e) U W)).mono ?_⟩
 ·intro g ac;obtain⟨a0,e⟩:=hg g ac
  grind [aG.th]
 ·rintro e s ⟨K,v',m,L,rfl,n,ae,v,Z,X,T⟩;have aw:∀y,y<G→m.get y=.none:=by
   intro y hy;cases d:φ.view id G y with
   |some l=>exact(n.jN d (af.e7 _ _)).1
   |none=>
    rw[n.nX hy d (fun a q p=>by grind [af.e7])];exact af.e7 _ _
  have u:Cut G m (af.zero m.next):=⟨fun y=>by
   grind [af.e7,jW],rfl,fun _ _ _ _ _ _ _ _ _=>af.e7 _ _⟩
  have I:=n.rel.cut u;have z:nI G (φ.view id G) (af.zero G) w (L.dQ m (af.zero m.next) s) (af.zero m.next) s:=(n.ye (aF G)).trans (n.rel.xj u n.next)
  have J:=aL.dQ n.rel u Z ae;generalize L.dQ m (af.zero m.next) s=r at I z J
  have C:∀ {k:Nat},k<w.heap.size→s.heap[k]? =w.heap[k]? :=by
   intro k t;by_cases F:∃q l,φ.view id G q=some l∧l.c=k
   ·obtain⟨q,l,d,rfl⟩:=F;exact(n.jN d (af.e7 _ _)).2
   ·exact n.lY t (fun q l d p=>F ⟨q,l,d,p⟩)
  have Y:∀k x,r.im k=some x→φ.im k=some x∨w.heap.size≤k:=by
   intro k x e;rcases z.nk k x e with h|h|⟨q,l,_,_,h⟩
   ·exact .inl h
   ·exact .inr h
   ·grind [af.e7]
  have B:φ.le ⟨φ.f,r.im⟩:=⟨fun _ _ e=>e,z.xA⟩;have ad:Rel ⟨φ.f,r.im⟩ H s:=by
   refine⟨?_,fun d p=>n.same.free (j.room d p),j.len,j.inj,j.top,fun d=>eF (j.loc d) n.size,j.mem,j.mG,?_,?_,j.mJ⟩
   ·intro q l cs g i x d p N O;obtain⟨x',D,E⟩:=j.cell d p N O;refine⟨x',?_,E.mono B⟩;unfold World.cell? at D⊢
    grind
   ·intro q l o d p;obtain⟨D,E⟩:=j.cl d p;exact⟨D,E.mono B (C (j.loc d))⟩
   ·intro k x e;have hi:=I.fH e;refine⟨hi.obj,hi.kind,fun q l d p=>?_⟩;rcases Y k x e with h|h
    ·exact(j.fH h).off q l d p
    ·have:=j.loc d;omega
  refine⟨v,v',H,⟨φ.f,r.im⟩,rfl,⟨ad,B,fun Q S=>absurd (Q.symm.trans S) aE,fun _ _ _=>rfl,aF _,fun h _=>C h,n.size,n.same,fun d p=>⟨p,C (j.loc d)⟩,fun k x e=>?_⟩,aL.free (φ:=r) (ψ:=⟨φ.f,r.im⟩) (fun _ _ e=>e) X J,T,rfl⟩
  grind
end
inductive aP where
 |skip|ret|exit (id:Nat)|bP (l:List c6)|seq (a b:aP)|cond (x:Fr→V) (a b:aP)|block (id:Nat) (b:aP)|loop (b:aP)
 |cut (B n:Nat) (b:aP)
def comp(N:eT)(T:cc)(c:Code):Option aP:=
 Code.rec (motive:=fun _=>Option aP) (some .skip) (fun _ e d=>an (plan N T e.toList d) fun l=>some (.bP l)) (fun _ _ a b=>an a fun a=>an b fun b=>some (.seq a b))
  (fun x _ _ a b=>an (hH x) fun x=>an a fun a=>an b fun b=>some (.cond x a b)) (fun id _ b=>an b fun b=>some (.block id b)) (fun _ b=>an b fun b=>some (.loop b))
  (fun _ _ _ _ _ _=>aJ) (fun id=>some (.exit id)) (fun _ b=>b) (fun _=>some .skip) (fun _=>aJ) (some .ret) (fun _=>aJ) c
inductive gH where
 |tmp (t:Nat)|cell (a:Nat) (agg:Bool) (size:Nat)
def AR(T:cc)(l:List ResultVar):Option (List gH):=
 List.rec (motive:=fun _=>Option (List gH)) (some []) (fun r _ b=>an (match r with
  |.tmp t=>some (gH.tmp t)
  |.cell a t=>an (T.isAgg t) fun g=>an (iV T t) fun s=>some (gH.cell a g s)) fun r=>an b fun l=>some (r::l)) l
def sy(G:Nat)(N:eT)(T:cc)(a:Func):Option (aP×List gH):=
 an a.body fun c=>aQ (sF G a c) (an (comp N T c) fun k=>an (AR T a.results.toList) fun r=>some (k,r))
def r0(v:V)(p q:Prop):Prop:=match v with
 |.bool true=>p
 |.bool false=>q
 |_=>False
def SH(B n:Nat)(F:Fr)(H:af)(K:Fr→af→Prop):Prop:=
 ∃b a,Cut B H a∧(∀t,t<n→bO H a (F.get V.undef t) (b.get V.undef t))∧K b a
def wp(P:Program)(G:Nat):aP→Fr→af→(X→Fr→af→Prop)→Prop
 |.skip,F,H,Q=>Q .norm F H
 |.ret,F,H,Q=>Q .ret F H
 |.exit id,F,H,Q=>Q (.exit id) F H
 |.bP l,F,H,Q=>gI P G l F H (Q .norm)
 |.seq a b,F,H,Q=>wp P G a F H (fD (fun c d=>wp P G b c d Q) Q)
 |.cond x a b,F,H,Q=>r0 (x F) (wp P G a F H Q) (wp P G b F H Q)
 |.block id b,F,H,Q=>wp P G b F H (iY id Q)
 |.loop b,F,H,Q=>∃(I:Nat→Fr→af→Prop) (k:Nat),I k F H∧∀k F H,I k F H→wp P G b F H (fD (fun c d=>∃m,m<k∧I m c d) Q)
 |.cut B n b,F,H,Q=>SH B n F H fun e f=>wp P G b e f Q
section
variable {P:Program}{G B n:Nat}{N:eT}{T:cc}
variable{m:Fr}{c:af}{F:X→Fr→af→Prop}
theorem Ax{rd:Bool}{d:Code}{b:X→Fr→af→Prop}(h:∀x m c,F x m c→b x m c)(o:iQ P G B n rd d m c F):iQ P G B n rd d m c b:=
 fun q a w p e f g i j k l=>wpIn_mono (o q a w p e f g i j k l) fun _ _ _=>k3.mono h
theorem ash(hT:cT P T)(b5:jV P N)(gb:P.follows .mixedOrders=true):∀(c:Code) (k:aP),comp N T c=some k→codeOk G n c=true→∀(F:Fr) (H:af) (Q:X→Fr→af→Prop),wp P G k F H Q→iQ P G B n false c F H Q:=by
 intro c;induction c with
 |skip=>intro k d _ F H Q h;cases d;exact DA h
 |region id E z=>
  intro k d j F H Q h;obtain⟨l,D,d⟩:=av.1 (show an (plan N T E.toList z) (fun l=>some (aP.bP l))=some k from d);cases d;exact Dw hT b5 gb j D h
 |seq a b t u=>
  intro k d j F H Q h;obtain⟨x,o,d⟩:=av.1 (show an (comp N T a) (fun x=>an (comp N T b) fun y=>some (aP.seq x y))=some k from d);obtain⟨y,s,d⟩:=av.1 d;cases d;obtain⟨q,r⟩:=(cC _ _).mp (show and (codeOk G n a) (codeOk G n b)=true from j);refine Dz (Ax (fun e v w g=>?_) (t x o q F H _ h));cases e with
  |norm=>exact u y s r v w Q g
  |ret=>exact g
  |exit i=>exact g
 |cond x a b t u=>
  intro k d j F H Q h;obtain⟨f,L,d⟩:=av.1 (show an (hH x) (fun f=>an (comp N T a) fun x=>an (comp N T b) fun y=>some (aP.cond f x y))=some k from d);obtain⟨J,o,d⟩:=av.1 d;obtain⟨y,s,d⟩:=av.1 d;cases d;obtain⟨K,C⟩:=(cC _ _).mp (show and (uk G n x) (and (codeOk G n a) (codeOk G n b))=true from j);obtain⟨q,r⟩:=(cC _ _).mp C;have A:r0 (f F) (wp P G J F H Q) (wp P G y F H Q):=h;unfold r0 at A
  grind [Aw]
 |block id b p=>
  intro k d j F H Q h;obtain⟨x,o,d⟩:=av.1 (show an (comp N T b) (fun x=>some (aP.block id x))=some k from d);cases d;exact Ds (p x o j F H _ h)
 |loop b p=>
  intro k d j F H Q h;obtain⟨x,o,d⟩:=av.1 (show an (comp N T b) (fun x=>some (aP.loop x))=some k from d);cases d;obtain⟨I,m,q,r⟩:=h;exact Dv I (fun m F H hi=>p x o j F H _ (r m F H hi)) q
 |rangeFunc g M a b _ _=>intro k d;cases d
 |exit id=>intro k d _ F H Q h;cases d;exact Dt h
 |scope b p=>intro k d j F H Q h;exact Dy (p k d j F H Q h)
 |label l=>intro k d _ F H Q h;cases d;exact Du h
 |goto l=>intro k d;cases d
 |ret=>intro k d _ F H Q h;cases d;exact Dx h
 |refuse l=>intro k d;cases d
def lK(F:Fr)(H:af)(l:List gH):Option (List V):=
 List.rec (motive:=fun _=>Option (List V)) (some []) (fun r _ b=>an (match r with
  |.tmp t=>some (F.get V.undef t)
  |.cell a g s=>iz g s [F.get V.undef a] H) fun v=>an b fun l=>some (v::l)) l
theorem Co:∀ {l:List ResultVar}{r:List gH},AR T l=some r→rN T m c l=lK m c r:=by
 intro l;induction l with
 |nil=>intro r h;cases h;rfl
 |cons x l j=>
  intro r h;obtain⟨y,b,h⟩:=av.1 h;obtain⟨k,i,h⟩:=av.1 h;cases h;have e:rN T m c (x::l)=an (Hi T m c x) fun v=>an (rN T m c l) fun r=>some (v::r):=rfl
  rw[e,j i];cases x with
  |tmp t=>cases b;rfl
  |cell a t=>
   obtain⟨g,d,b⟩:=av.1 b;obtain⟨s,f,b⟩:=av.1 b;cases b;show an (an (T.isAgg t) fun g=>an (iV T t) fun s=>iz g s [aN.lW V.undef (path a) m] c) _=_;rw[d,f];rfl
def qi(Q:V→af→Prop)(H:af)(r:Option (List V)):Prop:=match r with
 |some l=>Q (oH l) H
 |aJ=>False
def fu(a:List gH)(Q:V→af→Prop):X→Fr→af→Prop
 |.ret,F,H=>qi Q H (lK F H a)
 |.norm,F,H=>qi Q H (lK F H a)
 |.exit _,_,_=>False
variable{A:FuncId}{M:aP}{b:List V}{H:V→af→Prop}
theorem T2(hT:cT P T)(b5:jV P N)(gb:P.follows .mixedOrders=true){k:Func}{f:List gH}(t:N.get aJ A=some k)(a:sy G N T k=some (M,f))
 (hl:bL (cn b) k.ntmps=true) (h:wp P G M (lV b 0 .nil) c (fu f H)):e4 P G (.fn A) b c H:=by
 obtain⟨o,q,a⟩:=av.1 a;cases m:sF G k o with
 |false=>rw[m]at a;cases a
 |true=>
  rw[m]at a;obtain⟨v,u,a⟩:=av.1 (show an (comp N T o) (fun M=>an (AR T k.results.toList) fun r=>some (M,r))=some (M,f)from a);obtain⟨w,p,a⟩:=av.1 a;cases a;have s:codeOk G k.ntmps o=true:=by
   unfold sF at m;rw[cC,cC]at m;exact m.2.1
  refine D4 hT b5 t q (by rw[m,hl];rfl) (Ax (fun x n j g=>?_) (ash hT b5 gb o M u s _ _ _ h));cases x with
  |exit i=>exact g.elim
  |norm=>
   refine⟨aE,?_⟩;have d:qi H j (lK n j f):=g;cases e:lK n j f with
   |none=>rw[e]at d;exact d.elim
   |some l=>rw[e]at d;exact⟨l,(Co p).trans e,d⟩
  |ret=>
   refine⟨aE,?_⟩;have d:qi H j (lK n j f):=g;cases e:lK n j f with
   |none=>rw[e]at d;exact d.elim
   |some l=>rw[e]at d;exact⟨l,(Co p).trans e,d⟩
end
def rd(t:Nat)(F:Fr):V:=F.get V.undef t
def kc(v:V)(_:Fr):V:=v
@[go_sem]theorem avh(v:V)(F:Fr):kc v F=v:=rfl
@[go_sem↓]theorem G7(u t:Nat)(v:V)(F:Fr):rd u (put F (some t) v)=if t=u then v else rd u F:=oF F t u v
@[go_sem]theorem awB(u:Nat):rd u .nil=V.undef:=aN.get_nil _ _
@[go_sem]theorem awv(v:V)(F:Fr):put F none v=F:=rfl
@[go_sem]theorem ava(i:Nat)(F:Fr):lV [] i F=F:=rfl
@[go_sem]theorem au'(v:V)(l:List V)(i:Nat)(F:Fr):lV (v::l) i F=lV l (i+1) (put F (some i) v):=rfl
attribute [go_sem] kW
attribute [go_sem↓] reduceIte
def ex(d:Nat)(c:bQ):c6:=.ex ⟨fun _=>some true,some d,c⟩
def bF(c:bQ):c6:=.ex ⟨fun _=>some true,none,c⟩
def bC(j:Nat)(b:Bool)(d:Nat)(c:bQ):c6:=.ex ⟨fun F=>pg b (rd j F),some d,c⟩
def re(d:Nat)(c:bQ):c6:=.re ⟨fun _=>some true,some d,c⟩
def rg(j:Nat)(b:Bool)(d:Nat)(c:bQ):c6:=.re ⟨fun F=>pg b (rd j F),some d,c⟩
def ic(a:BinOp):IntKind→Int→IntKind→Int→Option aX:=match BI a with|some f=>f|none=>fun _ _ _ _=>none
def qn(a:BinOp):List UInt8→List UInt8→Option aX:=match CM a with|some f=>f|none=>fun _ _=>none
def mv(x:Fr→V):bQ:=.pu [x] PD
def bN(x:Fr→V):bQ:=.gK [x] I8
def pick(a b c:Fr→V):bQ:=.pu [a,b,c] zI
def S_(a:List V)(l:List V):Option aX:=match l with|[]=>some (.new a .ptr)|_=>none
def alloc(a:List V):bQ:=.pu [] (S_ a)
def DO(l:List V):Option aX:=match l with|[v]=>aQ (aZ v) (some (.new (cellsOf v) .ptr))|_=>none
def box(x:Fr→V):bQ:=.pu [x] DO
def bi(a:BinOp)(x y:Fr→V):bQ:=.pu [x,y] (hC (ic a))
def bs(a:BinOp)(x y:Fr→V):bQ:=.pu [x,y] (pQ (qn a))
def ba(ds:List TypeDesc)(x y:Fr→V):bQ:=.pu [x,y] (wP ds)
def be(neg:Bool)(d:TypeDesc)(x y:Fr→V):bQ:=.pu [x,y] (nh neg d)
def bq(a:Bool)(b:Nat)(x:Fr→V):bQ:=.rd [x] (iz a b)
def st(b:Nat)(a v:Fr→V):bQ:=.gK [a,v] (oI b)
def fa(a:Nat)(x:Fr→V):bQ:=.pu [x] (xm a)
def b6(a:Option Nat)(b:Nat)(x i:Fr→V):bQ:=.pu [x,i] (eo a b)
def cF(x i:Fr→V):bQ:=.pu [x,i] kK
def DL(b:List (Nat×Nat))(d c:List V):Option aX:=an (o_ b c d) fun a=>some (.val (.agg a))
def cZ(a:List (Nat×Nat))(c:List V)(b:List (Fr→V)):bQ:=.pu b (DL a c)
def DP(a:Nat)(c:List (Nat×Nat))(e d:List V):Option aX:=an (o_ c d (rep e a)) fun b=>some (.new b (.slice a a))
def cQ(a:Nat)(b:List (Nat×Nat))(d:List V)(c:List (Fr→V)):bQ:=.pu c (DP a b d)
def c9(lo hi mx:Bool)(a:List (Fr→V)):bQ:=.pu a (slice3 lg lo hi mx)
def dO(s:Nat)(lo hi mx:Bool)(a:List (Fr→V)):bQ:=.pu a (slice3 (j_ s) lo hi mx)
def dN(n s:Nat)(lo hi mx:Bool)(a:List (Fr→V)):bQ:=.pu a (slice3 (nD n s) lo hi mx)
def ms(bytes:Nat)(a:List V)(x y:Fr→V):bQ:=.pu [x,y] (l7 bytes a)
def dF(x:Fr→V):bQ:=.pu [x] (un zh)
def cY(x:Fr→V):bQ:=.pu [x] (un c3)
def dD(x:Fr→V):bQ:=.rd [x] ud
def dn(x:Fr→V):bQ:=.pu [x] (un yQ)
def mx(a:List (Fr→V)):bQ:=.pu a (rA max2)
def mn(a:List (Fr→V)):bQ:=.pu a (rA min2)
def dm(bytes:Nat)(a:List V)(x y:Fr→V):bQ:=.pu [x,y] (yJ bytes a)
def ap(a bytes:Nat)(x y:Fr→V):bQ:=.gK [x,y] (fA a bytes)
def dy(a:Nat)(x y:Fr→V):bQ:=.gK [x,y] (ow a)
def Ed(k:IntKind)(l:List V):Option aX:=match l with|[.int _ n]=>iT k (aB k n)|_=>none
def cw(k:IntKind)(x:Fr→V):bQ:=.pu [x] (Ed k)
def dr(x:Fr→V):bQ:=.pu [x] z_
def dw(x:Fr→V):bQ:=.rd [x] ta
def bY(f:Nat)(a:List (Fr→V)):bQ:=.call a fun l=>some (.fn f,l)
def dx(a:List (Fr→V)):bQ:=.call a sx
def ext(i:Nat)(x:Fr→V):bQ:=.pu [x] (y6 i)
def dJ(x:Fr→V):bQ:=.pu [x] zy
def Gu(l:List V):Option aX:=match l with|[.int k n]=>iT k (aB k (Int.sub (.ofNat 0) n))|_=>none
def neg(x:Fr→V):bQ:=.pu [x] Gu
def Gx(l:List V):Option aX:=match l with|[.bool b]=>h_ (!b)|_=>none
def not(x:Fr→V):bQ:=.pu [x] Gx
def B3(f n:Nat)(l:List V):Option aX:=an (RI n l) fun r=>some (.val (.func f r.1 r.2))
def dG(f n:Nat)(a:List (Fr→V)):bQ:=.pu a (B3 f n)
def gx(d:Option Nat)(K:Fr→af→Prop)(F:Fr)(H:af)(r:Option aX):Prop:=match r with
 |none=>False
 |some (.val v)=>K (put F d v) H
 |some (.new a b)=>K (put F d (b.mk H.next)) (H.push (.cells a 0))
def q_(d:Option Nat)(K:Fr→af→Prop)(F:Fr)(H:af)(r:Option V):Prop:=match r with
 |none=>False
 |some v=>K (put F d v) H
def gk(d:Option Nat)(K:Fr→af→Prop)(F:Fr)(r:Option (V×af)):Prop:=match r with
 |none=>False
 |some (v,a)=>K (put F d v) a
def oM(P:Program)(G:Nat)(d:Option Nat)(K:Fr→af→Prop)(F:Fr)(H:af)(r:Option (oU×List V)):Prop:=match r with
 |none=>False
 |some (t,b)=>e4 P G t b H fun v a=>K (put F d v) a
def yz(d:Option Nat)(K:Fr→af→Prop)(F:Fr)(H:af)(v:V):Prop:=K (put F d v) H
def Iv(d:Option Nat)(F:Fr)(r:Option V):Prop:=match r,d with
 |none,_=>False
 |some v,some t=>rd t F=v
 |some _,none=>True
variable{e:Fr→af→Prop}{m:Fr}{c:af}
@[congr]theorem atK{r a:Option aX}(h:r=a):gx i e m c r=gx i e m c a:=by rw[h]
@[congr]theorem atO{r a:Option V}(h:r=a):q_ i e m c r=q_ i e m c a:=by rw[h]
@[congr]theorem atp{r a:Option (V×af)}(h:r=a):gk i e m r=gk i e m a:=by rw[h]
@[congr]theorem asE{P:Program}{r b:Option (oU×List V)}(h:r=b):oM P a i e m c r=oM P a i e m c b:=by rw[h]
variable{r:V}
@[congr]theorem atF{a:V}(h:r=a):yz i e m c r=yz i e m c a:=by rw[h]
@[congr]theorem atQ{Q:V→af→Prop}{r a:Option (List V)}(h:r=a):qi Q c r=qi Q c a:=by rw[h]
@[go_sem]theorem atM(d:Option Nat)(K:Fr→af→Prop)(F:Fr)(H:af)(v:V):gx d K F H (some (.val v))=K (put F d v) H:=rfl
@[go_sem]theorem atL(d:Option Nat)(K:Fr→af→Prop)(F:Fr)(H:af)(a:List V)(b:Shape):gx d K F H (some (.new a b))=K (put F d (b.mk H.next)) (H.push (.cells a 0)):=rfl
@[go_sem]theorem atP(d:Option Nat)(K:Fr→af→Prop)(F:Fr)(H:af)(v:V):q_ d K F H (some v)=K (put F d v) H:=rfl
@[go_sem]theorem atq(d:Option Nat)(K:Fr→af→Prop)(F:Fr)(a:af)(v:V):gk d K F (some (v,a))=K (put F d v) a:=rfl
@[go_sem]theorem atG(d:Option Nat)(K:Fr→af→Prop)(F:Fr)(H:af)(v:V):yz d K F H v=K (put F d v) H:=rfl
@[go_sem]theorem atS(Q:V→af→Prop)(H:af)(l:List V):qi Q H (some l)=Q (oH l) H:=rfl
def dV(P:Program)(G:Nat)(c:bQ)(d:Option Nat)(F:Fr)(H:af)(K:Fr→af→Prop):Prop:=match c with
 |.bad=>False
 |.pu a g=>gx d K F H (g (vals a F))
 |.rd a g=>q_ d K F H (g (vals a F) H)
 |.gK a g=>gk d K F (g (vals a F) H)
 |.call a g=>oM P G d K F H (g (vals a F))
 |.mO x=>As (x F) H fun v b=>K (put F d v) b
theorem HO{P:Program}{w:Fr→Option Bool}{j:bQ}(k:w m=some true):jw P a ⟨w,i,j⟩ m c e=dV P a j i m c e:=by
 apply propext
 have p:jw P a ⟨w,i,j⟩ m c e↔match j with
  |.call b g=>∃t n,g (vals b m)=some (t,n)∧e4 P a t n c fun v f=>e (put m i v) f
  |.mO x=>As (x m) c fun v f=>e (put m i v) f
  |_=>∃l f,exec qH ⟨w,i,j⟩ m c=some (l,f)∧e l f:=by
  unfold jw;constructor
  ·grind
  ·grind
 rw[p];cases j with
 |call b g=>
  unfold dV oM
  grind
 |mO x=>exact Iff.rfl
 |bad=>
  constructor
  ·rintro⟨l,f,h,_⟩;simp only[exec,k]at h;cases h
  ·exact False.elim
 |pu b g=>
  unfold dV gx;simp only[exec,k];cases o:g (vals b m)with
  |none=>simp[an]
  |some r=>cases r<;>(simp only[an,Option.some.injEq,Prod.mk.injEq];grind)
 |rd b g=>
  unfold dV q_;simp only[exec,k];cases o:g (vals b m) c with
  |none=>simp[an]
  |some r=>simp only[an,Option.some.injEq,Prod.mk.injEq];grind
 |gK b g=>
  unfold dV gk;simp only[exec,k];cases o:g (vals b m) c with
  |none=>simp[an]
  |some r=>simp only[an,Option.some.injEq,Prod.mk.injEq];grind
theorem step_skip{P:Program}{w:Fr→Option Bool}{b:bQ}(f:w m=some false):jw P a ⟨w,i,b⟩ m c e=e (put m i V.undef) c:=by
 apply propext;unfold jw
 grind
theorem aqM{P:Program}{w:Fr→Option Bool}{b:bQ}(f:w m=none):jw P a ⟨w,i,b⟩ m c e=False:=by
 apply propext;unfold jw
 grind
def qY(P:Program)(G:Nat)(b:Bool)(c:bQ)(d:Option Nat)(K:Fr→af→Prop)(F:Fr)(H:af)(v:V):Prop:=match pg b v with
 |none=>False
 |some true=>dV P G c d F H K
 |some false=>K (put F d V.undef) H
def jY(P:Program)(G:Nat)(l:List c6)(Q:Fr→af→Prop)(F:Fr)(H:af):Prop:=gI P G l F H Q
def jx(P:Program)(G:Nat)(c:aP)(R:X→Fr→af→Prop)(F:Fr)(H:af):Prop:=wp P G c F H R
def yx(P:Program)(G:Nat)(a b:aP)(R:X→Fr→af→Prop)(F:Fr)(H:af)(v:V):Prop:=r0 v (wp P G a F H R) (wp P G b F H R)
def pZ(P:Program)(G:Nat)(d:Option Nat)(l:List c6)(Q:Fr→af→Prop)(F:Fr)(H:af)(r:Option V):Prop:=Iv d F r∧gI P G l F H Q
variable{n:Bool}
@[congr]theorem atu{P:Program}{b:bQ}{v:V}(h:v=r):qY P a n b i e m c v=qY P a n b i e m c r:=by rw[h]
variable{M:aP}
@[congr]theorem atA{P:Program}{a:aP}{R:X→Fr→af→Prop}{v:V}(b:v=r):yx P h a M R m c v=yx P h a M R m c r:=by rw[b]
@[congr]theorem asC{P:Program}{l:List c6}{r b:Option V}(h:r=b):pZ P a i l e m c r=pZ P a i l e m c b:=by rw[h]
section
variable {P:Program}{G:Nat}{F:Fr}{H:af}{Q:Fr→af→Prop}{R:X→Fr→af→Prop}{d:Option Nat}{K:Fr→af→Prop}
@[go_sem]theorem aty(c:bQ):qY P G true c d K F H (.bool true)=dV P G c d F H K:=rfl
@[go_sem]theorem atv(c:bQ):qY P G false c d K F H (.bool false)=dV P G c d F H K:=rfl
@[go_sem]theorem atw(c:bQ):qY P G false c d K F H (.bool true)=K (put F d V.undef) H:=rfl
@[go_sem]theorem atx(c:bQ):qY P G true c d K F H (.bool false)=K (put F d V.undef) H:=rfl
@[go_sem]theorem atC(a b:aP):yx P G a b R F H (.bool true)=jx P G a R F H:=rfl
@[go_sem]theorem atB(a b:aP):yx P G a b R F H (.bool false)=jx P G b R F H:=rfl
@[go_sem↓]theorem at3:jY P G [] Q F H=Q F H:=rfl
@[go_sem↓]theorem at2(i:Nat)(c:bQ)(l:List c6):jY P G (ex i c::l) Q F H=dV P G c (some i) F H (jY P G l Q):=by
 show jw P G ⟨fun _=>some true,some i,c⟩ F H (jY P G l Q)=_;exact HO rfl
@[go_sem↓]theorem at0(c:bQ)(l:List c6):jY P G (bF c::l) Q F H=dV P G c none F H (jY P G l Q):=by
 show jw P G ⟨fun _=>some true,none,c⟩ F H (jY P G l Q)=_;exact HO rfl
theorem ah'(j:Nat)(b:Bool)(dd:Option Nat)(c:bQ):jw P G ⟨fun F=>pg b (rd j F),dd,c⟩ F H K=qY P G b c dd K F H (rd j F):=by
 unfold qY
 grind [aqM,HO,step_skip]
@[go_sem↓]theorem atZ(j:Nat)(b:Bool)(i:Nat)(c:bQ)(l:List c6):jY P G (bC j b i c::l) Q F H=qY P G b c (some i) (jY P G l Q) F H (rd j F):=by
 show jw P G ⟨fun F=>pg b (rd j F),some i,c⟩ F H (jY P G l Q)=_
 grind [ah']
variable{t:List (Fr→V)}
theorem IX{w:Fr→Option Bool}(f:w F=some true){dd:Option Nat}{g:List V→af→Option V}:wm ⟨w,dd,.rd t g⟩ F H↔Iv dd F (g (vals t F) H):=by
 constructor
 ·rintro(h|⟨_,h⟩)
  ·grind
  ·obtain⟨v,c,d⟩:=h t g rfl;rw[c];cases dd with
   |none=>exact trivial
   |some b=>exact d b rfl
 ·intro h;refine .inr ⟨f,fun j i e=>?_⟩;cases e;cases e:g (vals t F) H with
  |none=>rw[e]at h;cases dd<;>exact h.elim
  |some v=>
   refine⟨v,rfl,fun b a=>?_⟩;have a:dd=some b:=a;rw[e,a]at h;exact h
theorem ao9(w:Fr→Option Bool)(b:w F=some true)(dd:Option Nat)(a:List (Fr→V))(g:List V→af→Option V)(l:List c6):gI P G (.re ⟨w,dd,.rd a g⟩::l) F H Q=pZ P G dd l Q F H (g (vals a F) H):=by
 unfold pZ;rw[←IX b];rfl
@[go_sem↓]theorem at4(i:Nat)(g:Bool)(s:Nat)(x:Fr→V)(l:List c6):jY P G (re i (bq g s x)::l) Q F H=pZ P G (some i) l Q F H (iz g s [x F] H):=ao9 _ rfl _ _ _ _
@[go_sem]theorem asD(i:Nat)(l:List c6)(v:V):pZ P G (some i) l Q F H (some v)=(rd i F=v∧jY P G l Q F H):=rfl
@[go_sem↓]theorem aue:jx P G .skip R F H=R .norm F H:=rfl
@[go_sem↓]theorem auc:jx P G .ret R F H=R .ret F H:=rfl
@[go_sem↓]theorem aua(id:Nat):jx P G (.exit id) R F H=R (.exit id) F H:=rfl
@[go_sem↓]theorem aub(l:List c6):jx P G (.bP l) R F H=jY P G l (R .norm) F H:=rfl
@[go_sem↓]theorem aud(a b:aP):jx P G (.seq a b) R F H=jx P G a (fD (jx P G b R) R) F H:=rfl
@[go_sem↓]theorem at7(x:Fr→V)(a b:aP):jx P G (.cond x a b) R F H=yx P G a b R F H (x F):=rfl
@[go_sem↓]theorem at6(id:Nat)(b:aP):jx P G (.block id b) R F H=jx P G b (iY id R) F H:=rfl
@[go_sem↓]theorem awO(K:Fr→af→Prop):fD K R .norm F H=K F H:=rfl
@[go_sem↓]theorem awP(K:Fr→af→Prop):fD K R .ret F H=R .ret F H:=rfl
@[go_sem↓]theorem awN(K:Fr→af→Prop)(i:Nat):fD K R (.exit i) F H=R (.exit i) F H:=rfl
@[go_sem↓]theorem auv(id:Nat):iY id R .norm F H=R .norm F H:=rfl
@[go_sem↓]theorem auw(id:Nat):iY id R .ret F H=R .ret F H:=rfl
@[go_sem↓]theorem fF(id:Nat):iY id R (.exit id) F H=R .norm F H:=ao rfl
theorem DM{id:Nat}(h:a≠id):iY id R (.exit a) F H=R (.exit a) F H:=aj h
def oS(I:Nat→Fr→af→Prop)(k:Nat)(F:Fr)(H:af):Prop:=∃m,m<k∧I m F H
theorem bK(I:Nat→Fr→af→Prop)(k:Nat)(a:I k F H)(h:∀k F H,I k F H→jx P G M (fD (oS I k) R) F H):jx P G (.loop M) R F H:=⟨I,k,a,h⟩
variable{A:FuncId}{b:List V}
theorem oY{N:eT}{T:cc}(hT:cT P T)(b5:jV P N)(gb:P.follows .mixedOrders=true){a:Func}{c:List gH}(d:N.get aJ A=some a)(e:sy G N T a=some (M,c))
 {H:af}{Q:V→af→Prop} (hl:bL (cn b) a.ntmps=true) (h:jx P G M (fu c Q) (lV b 0 .nil) H):e4 P G (.fn A) b H Q:=T2 hT b5 gb d e hl h
@[go_sem↓]theorem att(a:List gH)(Q:V→af→Prop):fu a Q .ret F H=qi Q H (lK F H a):=rfl
@[go_sem↓]theorem atr(a:List gH)(Q:V→af→Prop):fu a Q .norm F H=qi Q H (lK F H a):=rfl
@[go_sem]theorem awH:lK F H []=some []:=rfl
@[go_sem]theorem awI(t:Nat)(l:List gH):lK F H (.tmp t::l)=an (lK F H l) fun l=>some (rd t F::l):=rfl
@[go_sem]theorem awG(a:Nat)(g:Bool)(s:Nat)(l:List gH):lK F H (.cell a g s::l)=an (iz g s [rd a F] H) fun v=>an (lK F H l) fun l=>some (v::l):=rfl
@[go_sem]theorem awE(v:V):oH [v]=v:=rfl
@[go_sem]theorem awF(v u:V)(l:List V):oH (v::u::l)=.aA (v::u::l):=rfl
@[go_sem]theorem awD:oH []=.aA []:=rfl
@[go_sem]theorem xK{c:Type}(a:f)(b:f→Option c):an (some a) b=b a:=rfl
@[go_sem]theorem av9{b:Type}(a:f→Option b):an none a=none:=rfl
@[go_sem]theorem zC(x:Option f):aQ true x=x:=rfl
@[go_sem]theorem av_(x:Option f):aQ false x=none:=rfl
@[go_sem↓]theorem atc(x:Fr→V):dV P G (mv x) d F H K=yz d K F H (x F):=rfl
@[go_sem↓]theorem asI(x:Fr→V):dV P G (bN x) d F H K=yz d K F H (x F):=rfl
@[go_sem↓]theorem ati(a b c:Fr→V):dV P G (pick a b c) d F H K=gx d K F H (zI [a F,b F,c F]):=rfl
@[go_sem↓]theorem asF(a:List V):dV P G (alloc a) d F H K=K (put F d (.ptr H.next 0)) (H.push (.cells a 0)):=rfl
@[go_sem↓]theorem asO(x:Fr→V):dV P G (box x) d F H K=gx d K F H (DO [x F]):=rfl
@[go_sem↓]theorem asL(a:BinOp)(x y:Fr→V):dV P G (bi a x y) d F H K=gx d K F H (hC (ic a) [x F,y F]):=rfl
@[go_sem↓]theorem asP(a:BinOp)(x y:Fr→V):dV P G (bs a x y) d F H K=gx d K F H (pQ (qn a) [x F,y F]):=rfl
@[go_sem↓]theorem asJ(ds:List TypeDesc)(x y:Fr→V):dV P G (ba ds x y) d F H K=gx d K F H (wP ds [x F,y F]):=rfl
@[go_sem↓]theorem asK(n:Bool)(t:TypeDesc)(x y:Fr→V):dV P G (be n t x y) d F H K=gx d K F H (nh n t [x F,y F]):=rfl
@[go_sem↓]theorem as3(g:Bool)(s:Nat)(x:Fr→V):dV P G (bq g s x) d F H K=q_ d K F H (iz g s [x F] H):=rfl
@[go_sem↓]theorem ato(s:Nat)(a v:Fr→V):dV P G (st s a v) d F H K=gk d K F (oI s [a F,v F] H):=rfl
@[go_sem↓]theorem as0(o:Nat)(x:Fr→V):dV P G (fa o x) d F H K=gx d K F H (xm o [x F]):=rfl
@[go_sem↓]theorem as1(a:Option Nat)(s:Nat)(x i:Fr→V):dV P G (b6 a s x i) d F H K=gx d K F H (eo a s [x F,i F]):=rfl
@[go_sem↓]theorem as2(x i:Fr→V):dV P G (cF x i) d F H K=gx d K F H (kK [x F,i F]):=rfl
@[go_sem]theorem awR:vals [] F=[]:=rfl
@[go_sem]theorem awQ(f:Fr→V)(l:List (Fr→V)):vals (f::l) F=f F::vals l F:=rfl
@[go_sem↓]theorem asM(a:List (Nat×Nat))(c:List V)(b:List (Fr→V)):dV P G (cZ a c b) d F H K=gx d K F H (DL a c (vals b F)):=rfl
@[go_sem↓]theorem asQ(n:Nat)(a:List (Nat×Nat))(c:List V)(b:List (Fr→V)):dV P G (cQ n a c b) d F H K=gx d K F H (DP n a c (vals b F)):=rfl
@[go_sem↓]theorem atn(a b c:Bool)(e:List (Fr→V)):dV P G (c9 a b c e) d F H K=gx d K F H (slice3 lg a b c (vals e F)):=rfl
@[go_sem↓]theorem atm(s:Nat)(a b c:Bool)(e:List (Fr→V)):dV P G (dO s a b c e) d F H K=gx d K F H (slice3 (j_ s) a b c (vals e F)):=rfl
@[go_sem↓]theorem atl(n s:Nat)(a b c:Bool)(e:List (Fr→V)):dV P G (dN n s a b c e) d F H K=gx d K F H (slice3 (nD n s) a b c (vals e F)):=rfl
@[go_sem↓]theorem ata(n:Nat)(a:List V)(x y:Fr→V):dV P G (ms n a x y) d F H K=gx d K F H (l7 n a [x F,y F]):=rfl
@[go_sem↓]theorem as7(x:Fr→V):dV P G (dF x) d F H K=gx d K F H (zh (x F)):=rfl
@[go_sem↓]theorem as5(x:Fr→V):dV P G (cY x) d F H K=gx d K F H (c3 (x F)):=rfl
@[go_sem↓]theorem asS(x:Fr→V):dV P G (dn x) d F H K=gx d K F H (yQ (x F)):=rfl
@[go_sem↓]theorem atd(a:List (Fr→V)):dV P G (mx a) d F H K=gx d K F H (rA max2 (vals a F)):=rfl
@[go_sem↓]theorem as_(a:List (Fr→V)):dV P G (mn a) d F H K=gx d K F H (rA min2 (vals a F)):=rfl
@[go_sem↓]theorem asH(n:Nat)(a:List V)(x y:Fr→V):dV P G (dm n a x y) d F H K=gx d K F H (yJ n a [x F,y F]):=rfl
@[go_sem↓]theorem asG(s n:Nat)(x y:Fr→V):dV P G (ap s n x y) d F H K=gk d K F (fA s n [x F,y F] H):=rfl
@[go_sem↓]theorem asX(s:Nat)(x y:Fr→V):dV P G (dy s x y) d F H K=gk d K F (ow s [x F,y F] H):=rfl
@[go_sem↓]theorem asT(k:IntKind)(x:Fr→V):dV P G (cw k x) d F H K=gx d K F H (Ed k [x F]):=rfl
@[go_sem↓]theorem asU(x:Fr→V):dV P G (dr x) d F H K=gx d K F H (z_ [x F]):=rfl
@[go_sem↓]theorem asV(x:Fr→V):dV P G (dw x) d F H K=q_ d K F H (ta [x F] H):=rfl
@[go_sem↓]theorem asR(f:Nat)(a:List (Fr→V)):dV P G (bY f a) d F H K=oM P G d K F H (some (.fn f,vals a F)):=rfl
@[go_sem↓]theorem asW(a:List (Fr→V)):dV P G (dx a) d F H K=oM P G d K F H (sx (vals a F)):=rfl
@[go_sem↓]theorem asZ(i:Nat)(x:Fr→V):dV P G (ext i x) d F H K=gx d K F H (y6 i [x F]):=rfl
@[go_sem↓]theorem atf(x:Fr→V):dV P G (dJ x) d F H K=gx d K F H (zy [x F]):=rfl
@[go_sem↓]theorem ate(x:Fr→V):dV P G (neg x) d F H K=gx d K F H (Gu [x F]):=rfl
@[go_sem↓]theorem atg(x:Fr→V):dV P G (not x) d F H K=gx d K F H (Gx [x F]):=rfl
@[go_sem↓]theorem as8(f n:Nat)(a:List (Fr→V)):dV P G (dG f n a) d F H K=gx d K F H (B3 f n (vals a F)):=rfl
theorem use(h:∀H,e4 P G (.fn A) b H fun v a=>v=r∧a=H)(f:K (put F d r) H):oM P G d K F H (some (.fn A,b)):=
 (h H).mono fun v a ⟨c,e⟩=>by rw[c,e];exact f
end
theorem qC(k:IntKind):g8 k k=true:=by cases k<;>rfl
section
variable (k:IntKind) (a b:Int)
@[go_sem]theorem auj:hC (ic .add) [.int k a,.int k b]=some (.val (.int k (aB k (a+b)))):=by show aQ (g8 k k) _=_;rw[qC];rfl
@[go_sem]theorem aut:hC (ic .sub) [.int k a,.int k b]=some (.val (.int k (aB k (a-b)))):=by show aQ (g8 k k) _=_;rw[qC];rfl
@[go_sem]theorem aup:hC (ic .mul) [.int k a,.int k b]=some (.val (.int k (aB k (a*b)))):=by show aQ (g8 k k) _=_;rw[qC];rfl
theorem jK(h:b≠0):hC (ic .quo) [.int k a,.int k b]=some (.val (.int k (aB k (a.tdiv b)))):=by
 show aQ (and (g8 k k) (!(lX b 0))) _=_;rw[qC,qv,a_ h];rfl
theorem mC(h:b≠0):hC (ic .rem) [.int k a,.int k b]=some (.val (.int k (a.tmod b))):=by
 show aQ (and (g8 k k) (!(lX b 0))) _=_;rw[qC,qv,a_ h];rfl
@[go_sem]theorem auk:hC (ic .eql) [.int k a,.int k b]=some (.val (.bool (decide (a=b)))):=by show aQ (g8 k k) (h_ (lX a b))=_;rw[qC,qv];rfl
@[go_sem]theorem auq:hC (ic .neq) [.int k a,.int k b]=some (.val (.bool (!decide (a=b)))):=by show aQ (g8 k k) (h_ (!lX a b))=_;rw[qC,qv];rfl
@[go_sem]theorem auo:hC (ic .lss) [.int k a,.int k b]=some (.val (.bool (decide (a<b)))):=by show aQ (g8 k k) (h_ (lH a b))=_;rw[qC,qw];rfl
@[go_sem]theorem aum:hC (ic .gtr) [.int k a,.int k b]=some (.val (.bool (decide (b<a)))):=by show aQ (g8 k k) (h_ (lH b a))=_;rw[qC,qw];rfl
@[go_sem]theorem aun:hC (ic .leq) [.int k a,.int k b]=some (.val (.bool (!decide (b<a)))):=by show aQ (g8 k k) (h_ (!lH b a))=_;rw[qC,qw];rfl
@[go_sem]theorem aul:hC (ic .geq) [.int k a,.int k b]=some (.val (.bool (!decide (a<b)))):=by show aQ (g8 k k) (h_ (!lH a b))=_;rw[qC,qw];rfl
end
@[go_sem]theorem Tz(k l:IntKind)(a:Int)(n:Nat):hC (ic .shr) [.int k a,.int l (n:Int)]=some (.val (.int k (rQ a (ep n (gQ k))))):=rfl
@[go_sem]theorem Ty(k l:IntKind)(a:Int)(n:Nat):hC (ic .shl) [.int k a,.int l (n:Int)]=some (.val (.int k (aB k (a*((2^ep n (gQ k):Nat):Int))))):=rfl
@[go_sem]theorem aus(k l:IntKind)(a:Int)(n:Nat):hC (ic .shr) [.int k a,.int l (no_index (OfNat.ofNat n))]=some (.val (.int k (rQ a (ep n (gQ k))))):=rfl
@[go_sem]theorem aur(k l:IntKind)(a:Int)(n:Nat):hC (ic .shl) [.int k a,.int l (no_index (OfNat.ofNat n))]=some (.val (.int k (aB k (a*((2^ep n (gQ k):Nat):Int))))):=rfl
theorem aI(x:Int)(h: -9223372036854775808≤x∧x<9223372036854775808):aB .i64 x=x:=by
 rw[pY];unfold r6;simp[p5,p6];omega
theorem hL(x:Int):aB .u64 x=x%18446744073709551616:=by
 rw[pY];unfold r6;simp[p5,p6]
theorem n_(x:Int):aB .u32 x=x%4294967296:=by
 rw[pY];unfold r6;simp[p5,p6]
theorem Sr(x:Int):aB .u8 x=x%256:=by
 rw[pY];unfold r6;simp[p5,p6]
theorem bV(x:Int)(h:0≤x∧x<18446744073709551616):aB .u64 x=x:=by rw[hL];omega
theorem gL(x:Int)(h:0≤x∧x<4294967296):aB .u32 x=x:=by rw[n_];omega
theorem FB(x:Int)(h:0≤x∧x<256):aB .u8 x=x:=by rw[Sr];omega
@[go_sem]theorem auY(k l:IntKind)(n:Int):Ed k [.int l n]=some (.val (.int k (aB k n))):=rfl
@[go_sem]theorem awu(x y:V):zI [.bool true,x,y]=some (.val x):=rfl
@[go_sem]theorem awt(x y:V):zI [.bool false,x,y]=some (.val y):=rfl
@[go_sem]theorem av8(b:Bool):Gx [.bool b]=some (.val (.bool (!b))):=rfl
@[go_sem]theorem av5(k:IntKind)(n:Int):Gu [.int k n]=some (.val (.int k (aB k (-n)))):=by
 show iT k (aB k (Int.sub 0 n))=_;rw[show Int.sub 0 n= -n from Int.zero_sub n];rfl
@[go_sem]theorem au6(i:Nat)(l:List V):y6 i [.aA l]=an (cO l i) fun v=>some (.val v):=rfl
@[go_sem]theorem amo(a:f)(l:List f):cO (a::l) 0=some a:=rfl
@[go_sem]theorem Pn(a:f)(l:List f)(n:Nat):cO (a::l) (n+1)=cO l n:=rfl
@[go_sem]theorem zl(l:List f):cj l 0=some []:=by cases l<;>rfl
@[go_sem]theorem Pw(a:f)(l:List f)(n:Nat):cj (a::l) (n+1)=an (cj l n) fun r=>some (a::r):=rfl
@[go_sem]theorem dA(l:List f):ej l 0=l:=by cases l<;>rfl
@[go_sem]theorem Pe(a:f)(l:List f)(n:Nat):ej (a::l) (n+1)=ej l n:=rfl
@[go_sem]theorem avP(n:Nat)(a:List V):c3 (.row n a)=some (.val (.int .i64 (n:Int))):=rfl
@[go_sem]theorem avR(b o n:Nat)(c:Cap):c3 (.slice b o n c)=some (.val (.int .i64 (n:Int))):=rfl
@[go_sem]theorem avN:c3 .ak=some (.val (.int .i64 0)):=rfl
@[go_sem]theorem avJ:c3 .emp=some (.val (.int .i64 0)):=rfl
@[go_sem]theorem avS(s:List UInt8):zh (.str s)=some (.val (.int .i64 (s.length:Int))):=by show iT .i64 (.ofNat (cn s))=_;rw[gV];rfl
@[go_sem]theorem aui(n x y:Bool):nh n .bool [.bool x,.bool y]=some (.val (.bool (xor n (x==y)))):=by cases n<;>cases x<;>cases y<;>rfl
@[go_sem]theorem av7(b o:Nat):zy [.ptr b o]=some (.val (.ptr b o)):=rfl
@[go_sem]theorem au7(b o f:Nat):xm f [.ptr b o]=some (.val (.ptr b (o+f))):=rfl
@[go_sem]theorem au8(a:List V)(o f:Nat):xm f [.dh a o]=some (.val (.dh a (o+f))):=rfl
variable{s:Int}
theorem mA(k:IntKind)(h:0≤s):gy (.int k s)=some s.toNat:=by
 cases s with
 |ofNat n=>rfl
 |negSucc n=>omega
theorem ki{a:Nat}(c:a≤h):bL a h=true:=(fB _ _).2 c
variable{u:Nat}{o:IntKind}
theorem k7{a:List V}(b:0≤s∧s<u):eo none h [.row u a,.int o s]=some (.val (.dh a (s.toNat*h))):=by
 show an (gy (.int o s)) _=_;rw[mA o b.1];show aQ (bL (s.toNat+1) u) _=_;rw[ki aa];rfl
variable{L:Nat}
theorem bW{n:Nat}{c:Cap}(a:0≤s∧s<n):eo none h [.slice u L n c,.int o s]=some (.val (.ptr u (L+s.toNat*h))):=by
 show an (gy (.int o s)) _=_;rw[mA o a.1];show aQ (bL (s.toNat+1) n) _=_;rw[ki aa];rfl
@[go_sem]theorem avH(s k:Nat)(a:List V)(H:af):iz false s [.dh a k] H=cO a k:=rfl
@[go_sem]theorem avI(s k:Nat)(a:List V)(H:af):iz true s [.dh a k] H=an (cj (ej a k) s) fun r=>some (.agg r):=rfl
@[go_sem]theorem Gw(H:af)(o:cR):(H.push o).next=H.next+1:=rfl
@[go_sem]theorem jl(H:af)(b:Nat)(o:cR):(H.set b o).next=H.next:=rfl
@[go_sem]theorem av6(G:Nat):(af.zero G).next=G:=rfl
attribute [go_sem↓] af.aY af.aK
attribute [go_sem] af.e7 eJ cG ef iP bH Nat.reduceAdd Nat.reduceMul
@[go_sem]theorem av2(b:Nat):Shape.mk .ptr b=.ptr b 0:=rfl
@[go_sem]theorem av3(b l c:Nat):Shape.mk (.slice l c) b=.slice b 0 l (.known c):=rfl
@[go_sem]theorem av1(b l:Nat):Shape.mk (.least l) b=.slice b 0 l (.least l):=rfl
@[go_sem]theorem av0(b l:Nat):Shape.mk (.bytes l) b=.slice b 0 l .nx:=rfl
def Uk(o:cR):Option (List V):=match o with|.cells a 0=>some a|_=>none
@[go_sem]theorem auB(a:List V):Uk (.cells a 0)=some a:=rfl
theorem fI{cs:List V}(a:c.get h=.cells cs 0):c.cP h u L=cj (ej cs u) L:=by
 unfold af.cP af.cells?;rw[a];rfl
theorem fo{v:V}{a:List V}(b:h<a.length):cz [v] a h=some (a.set h v):=by
 simp_all [k8,ao,Nat.succ_le_of_lt,List.set_eq_take_append_cons_drop]
theorem dt{p:Prop}[Decidable p](h:p):decide p=true:=bm h
theorem df{p:Prop}[Decidable p](h:¬p):decide p=false:=a_ h
@[go_sem]theorem Gy:(!true)=false:=rfl
@[go_sem]theorem nf:(!false)=true:=rfl
@[go_sem]theorem JI:(true==true)=true:=rfl
@[go_sem]theorem JH:(true==false)=false:=rfl
@[go_sem]theorem JG:(false==true)=false:=rfl
@[go_sem]theorem JF:(false==false)=true:=rfl
@[go_sem]theorem awT(b:Bool):(xor false b)=b:=by cases b<;>rfl
@[go_sem]theorem awU(b:Bool):(xor true b)= !b:=by cases b<;>rfl
@[go_sem]theorem auu(a:List (Nat×Nat))(c b:List V):DL a c b=an (o_ a b c) fun d=>some (.val (.agg d)):=rfl
@[go_sem]theorem auA(n:Nat)(a:List (Nat×Nat))(c b:List V):DP n a c b=an (o_ a b (rep c n)) fun d=>some (.new d (.slice n n)):=rfl
@[go_sem]theorem au_(b a:List V):o_ [] b a=some a:=rfl
@[go_sem]theorem au9(a s:Nat)(c:List (Nat×Nat))(v:V)(d b:List V):o_ ((a,s)::c) (v::d) b=aQ (and (aZ v) (bn (cn (cellsOf v)) s)) (an (cz (cellsOf v) b a) fun b=>o_ c d b):=rfl
@[go_sem]theorem avj(b:Bool):aZ (.bool b)=true:=rfl
@[go_sem]theorem avm(k:IntKind)(n:Int):aZ (.int k n)=true:=rfl
@[go_sem]theorem avy(s:List UInt8):aZ (.str s)=true:=rfl
@[go_sem]theorem avv(n:Nat)(s:List V):aZ (.row n s)=true:=rfl
@[go_sem]theorem avi(s:List V):aZ (.agg s)=true:=rfl
@[go_sem]theorem avu(b o:Nat):aZ (.ptr b o)=true:=rfl
@[go_sem]theorem avx(b o n:Nat)(c:Cap):aZ (.slice b o n c)=true:=rfl
@[go_sem]theorem avs:aZ .ak=true:=rfl
@[go_sem]theorem avk:aZ .emp=true:=rfl
@[go_sem]theorem avr:aZ .ja=true:=rfl
@[go_sem]theorem avl(f:Nat)(a b:List V):aZ (.func f a b)=true:=rfl
@[go_sem]theorem auC(s:List V):cellsOf (.agg s)=s:=rfl
@[go_sem]theorem auD(b:Bool):cellsOf (.bool b)=[.bool b]:=rfl
@[go_sem]theorem auG(k:IntKind)(n:Int):cellsOf (.int k n)=[.int k n]:=rfl
@[go_sem]theorem auP(s:List UInt8):cellsOf (.str s)=[.str s]:=rfl
@[go_sem]theorem auN(n:Nat)(s:List V):cellsOf (.row n s)=[.row n s]:=rfl
@[go_sem]theorem auM(b o:Nat):cellsOf (.ptr b o)=[.ptr b o]:=rfl
@[go_sem]theorem auO(b o n:Nat)(c:Cap):cellsOf (.slice b o n c)=[.slice b o n c]:=rfl
@[go_sem]theorem auL:cellsOf .ak=[.ak]:=rfl
@[go_sem]theorem auE:cellsOf .emp=[.emp]:=rfl
@[go_sem]theorem auK:cellsOf .ja=[.ja]:=rfl
@[go_sem]theorem auF(f:Nat)(a b:List V):cellsOf (.func f a b)=[.func f a b]:=rfl
@[go_sem]theorem av'(b:Bool):V.one (.bool b)=true:=rfl
@[go_sem]theorem awc(k:IntKind)(n:Int):V.one (.int k n)=true:=rfl
@[go_sem]theorem awl(s:List UInt8):V.one (.str s)=true:=rfl
@[go_sem]theorem awj(n:Nat)(s:List V):V.one (.row n s)=true:=rfl
@[go_sem]theorem awi(b o:Nat):V.one (.ptr b o)=true:=rfl
@[go_sem]theorem awk(b o n:Nat)(c:Cap):V.one (.slice b o n c)=true:=rfl
@[go_sem]theorem awh:V.one .ak=true:=rfl
@[go_sem]theorem awa:V.one .emp=true:=rfl
@[go_sem]theorem awg:V.one .ja=true:=rfl
@[go_sem]theorem awb(f:Nat)(a b:List V):V.one (.func f a b)=true:=rfl
@[go_sem]theorem auh:cK []=true:=rfl
@[go_sem]theorem aug(v:V)(l:List V):cK (v::l)=and v.one (cK l):=rfl
@[go_sem]theorem avZ:cn ([]:List f)=0:=rfl
@[go_sem]theorem avY(a:f)(l:List f):cn (a::l)=cn l+1:=rfl
@[go_sem]theorem av4(n:Nat):bn n n=true:=tC n
@[go_sem]theorem auf:and true true=true:=rfl
@[go_sem]theorem awK(a:List f)(v:f)(l:List f):cz a (v::l) 0=nu a (v::l):=rfl
@[go_sem]theorem awL(a:List f)(v:f)(l:List f)(n:Nat):cz a (v::l) (n+1)=an (cz a l n) fun r=>some (v::r):=rfl
@[go_sem]theorem awq(l:List f):nu [] l=some l:=rfl
@[go_sem]theorem awr(x y:f)(a l:List f):nu (x::a) (y::l)=an (nu a l) fun r=>some (x::r):=rfl
@[go_sem]theorem awC(l:List f):rep l 0=[]:=rfl
@[go_sem]theorem Cm(l:List f)(n:Nat):rep l (n+1)=cX l (rep l n):=rfl
@[go_sem]theorem BS(l:List f):cX [] l=l:=rfl
@[go_sem]theorem avD(a:f)(l m:List f):cX (a::l) m=a::cX l m:=rfl
@[go_sem]theorem auy(v:V):DO [v]=aQ (aZ v) (some (.new (cellsOf v) .ptr)):=rfl
def sN(g:Bool)(s o:Nat)(H:af)(b:Nat)(x:cR):Option V:=match x with
 |.cells a c=>match H.fV b c,g with
  |true,false=>cO a o
  |true,true=>an (cj (ej a o) s) fun r=>some (.agg r)
  |false,_=>none
 |_=>none
def CJ(s o:Nat)(H:af)(b:Nat)(v:V)(x:cR):Option (V×af):=match x with
 |.cells a 0=>aQ (and (aZ v) (bn (cn (cellsOf v)) s)) (aQ (cK (cellsOf v)) (an (cz (cellsOf v) a o) fun c=>some (V.undef,H.set b (.cells c 0))))
 |.cells _ _=>aQ (and (aZ v) (bn (cn (cellsOf v)) s)) (an (H.e3 b o (cellsOf v)) fun H=>some (V.undef,H))
 |_=>none
@[congr]theorem avE{x a:cR}(d:x=a):sN n h u c L x=sN n h u c L a:=by rw[d]
@[congr]theorem awM{v:V}{x a:cR}(d:x=a):CJ h u c L v x=CJ h u c L v a:=by rw[d]
@[go_sem]theorem avF(s o:Nat)(H:af)(b:Nat)(a:List V):sN false s o H b (.cells a 0)=cO a o:=rfl
@[go_sem]theorem avG(s o:Nat)(H:af)(b:Nat)(a:List V):sN true s o H b (.cells a 0)=an (cj (ej a o) s) fun r=>some (.agg r):=rfl
@[go_sem]theorem RL(s o:Nat)(H:af)(b:Nat)(v:V)(a:List V):CJ s o H b v (.cells a 0)=aQ (and (aZ v) (bn (cn (cellsOf v)) s)) (aQ (cK (cellsOf v)) (an (cz (cellsOf v) a o) fun c=>some (V.undef,H.set b (.cells c 0)))):=rfl
@[go_sem]theorem Gh(g:Bool)(s b o:Nat)(H:af):iz g s [.ptr b o] H=sN g s o H b (H.get b):=by
 cases g
 ·show H.load b o=_;unfold af.load af.cells? sN;cases H.get b with
  |cells c a=>cases e:H.fV b a<;>simp[e,aQ,an]
  |_=>rfl
 ·show an (H.cP b o s) _=_;unfold af.cP af.cells? sN;cases H.get b with
  |cells c a=>cases e:H.fV b a<;>simp[e,aQ,an]
  |_=>rfl
@[go_sem]theorem aqK(s b o:Nat)(v:V)(H:af):oI s [.ptr b o,v] H=CJ s o H b v (H.get b):=by
 show aQ (and (aZ v) (bn (cn (cellsOf v)) s)) (an (H.e3 b o (cellsOf v)) fun H=>some (V.undef,H))=_;cases e:H.get b with
 |cells a g=>
  cases g with
  |zero=>
   unfold af.e3;rw[e];show aQ _ (an (aQ (cK (cellsOf v)) (an (cz (cellsOf v) a o) fun c=>some (H.set b (.cells c 0)))) _)=_;rw[RL];cases cK (cellsOf v)with
   |false=>rfl
   |true=>cases cz (cellsOf v) a o<;>rfl
  |succ g=>rfl
 |none=>unfold af.e3;rw[e];cases(and (aZ v) (bn (cn (cellsOf v)) s))<;>rfl
 |bD x y=>unfold af.e3;rw[e];cases(and (aZ v) (bn (cn (cellsOf v)) s))<;>rfl
 |cl x=>unfold af.e3;rw[e];cases(and (aZ v) (bn (cn (cellsOf v)) s))<;>rfl
attribute [go_sem] Int.toNat_natCast_add_one
theorem iI{a:List V}{l:IntKind}(b:0≤s∧s*h≤1099511627776∧s≤1099511627776):l7 h a [.int o s,.int l s]=some (.new (rep a s.toNat) (.slice s.toNat s.toNat)):=by
 obtain⟨m,rfl⟩:∃m:Nat,s=m:=⟨s.toNat,aa⟩;have c:m*h≤1099511627776:=by have:=b.2.1;rw[←fY]at this;omega
 simp only[l7,show gy (V.int o (m:Int))=some m from rfl,show gy (V.int l (m:Int))=some m from rfl,xK,bH];rw[ki (aF m),ki (show eM m h≤1099511627776 from c),ki (aa:m≤1099511627776)];rfl
theorem sv{lo hi:Option V}{l h:Nat}(hl:Option.casesOn (motive:=fun _=>Option Nat) lo (some 0) gy=some l)(hh:Option.casesOn (motive:=fun _=>Option Nat) hi (some u) gy=some h)(a:l≤h)(b:h≤L):jL lo hi u L=some (l,h):=by
 unfold jL;rw[hh];show an (Option.casesOn (motive:=fun _=>Option Nat) lo (some 0) gy) _=_;rw[hl];show aQ (and (bL h L) (bL l h)) _=_;rw[ki b,ki a];rfl
theorem RA{l h:Nat}{a:List V}{lo hi:Option V}(i:a.length=L*u)(c:jL lo hi L L=some (l,h))(d:l≤h)(f:h≤L):x5 u L a lo hi none=some (.val (.row (h-l) ((a.drop (l*u)).take ((h-l)*u)))):=by
 show an (jL lo hi L L) _=_;rw[c];show Bool.casesOn (motive:=fun _=>Option aX) (bn l h) _ _=_;by_cases e:l=h
 ·simp_all
 ·rw[show bn l h=false from lq.2 fun b=>e ((beq_eq _ _).1 b)];show an (cj (ej a (eM l u)) (eM (jv h l) u)) _=_;rw[kj,eZ,ao]
  ·rfl
  ·have g:(h-l)*u≤(L-l)*u:=ee u aa
   grind [Nat.sub_mul,g5]
theorem CE{a:List V}(c:a.length=u*h)(b:0≤s∧s≤u):slice3 (j_ h) false true false [.row u a,.int o s]=some (.val (.row s.toNat (a.take (s.toNat*h)))):=by
 show x5 h u a none (some (.int o s)) none=_;rw[RA (l:=0) (h:=s.toNat) c (sv rfl (mA o b.1) (b4 _) aa) (b4 _) aa];simp
theorem aqo{a:List V}(c:a.length=L*u)(b:0≤s∧s≤L):slice3 (j_ u) true false false [.row L a,.int o s]=some (.val (.row (L-s.toNat) (a.drop (s.toNat*u)))):=by
 show x5 u L a (some (.int o s)) none none=_;rw[RA (l:=s.toNat) (h:=L) c (sv (mA o b.1) rfl aa (aF _)) aa (aF _)];simp_all [b8,g5,Nat.sub_mul,aF]
section
variable {P:Program}{G:Nat}
variable{A:FuncId}{H:V→af→Prop}
theorem Ki{f k:List V}{D:List V}(X:c.get h=.cells D 0)(K:∃o n m,V.slice h o n m∈f)(L:cD c (c.set h .none) f k)
 (u:e4 P G (.fn A) k (c.set h .none) H):e4 P G (.fn A) f c H:=by
 refine⟨u.1,fun d w C a N t=>?_⟩;obtain⟨l,hl⟩:∃l,d h=some l:=by
  obtain⟨o,n,m,O⟩:=K;obtain⟨i,hi⟩:=List.getElem?_of_mem O;obtain⟨x,_,Q⟩:=t.get i _ hi;cases Q with
  |slice I _ _=>exact⟨_,I⟩
 have j:Cut 0 c (c.set h .none):=by
  refine⟨fun y=>?_,rfl,fun y y' T U g J r s W=>?_⟩
  ·simp_all [af.aK,b4];omega
  ·grind [af.aK]
 have z:=a.xj j (b4 _);have M:Ext d c w (d.dQ c (c.set h .none) w) (c.set h .none) w:=by
  refine⟨z.rel,vr a,fun r s=>absurd (r.symm.trans s) aE,fun{y} _ J _=>?_,aF _,fun _ _=>rfl,aF _,hU.refl w,fun{y Y} p q=>⟨?_,rfl⟩,z.nk⟩
  ·rw[af.aK,aj (fun e=>by grind)]
  ·grind [af.aK]
 refine(u.2 (d.dQ c (c.set h .none) w) w C (a.cut j) N (bp.dQ a j L t)).mono ?_;rintro e Z ⟨v,R,B,S,p,q,E,F⟩;exact⟨v,R,B,S,p,M.trans q,E,F⟩
theorem jo{a args2:List V}{b:Nat}{cs:List V}(h:∀c,e4 P G (.fn A) args2 c fun v d=>v=r∧d=c)(p:c.get b=.cells cs 0)
 (k:∃o n f,V.slice b o n f∈a) (l:cD c (c.set b .none) a args2) (q:e (put m i r) (c.set b .none)):oM P G i e m c (some (.fn A,a)):=
 (Ki p k l (h _)).mono fun v d ⟨g,j⟩=>by rw[g,j];exact q
end
def aP.erase:aP→aP
 |.seq a b=>.seq a.erase b.erase
 |.cond x a b=>.cond x a.erase b.erase
 |.block id b=>.block id b.erase
 |.loop b=>.loop b.erase
 |.cut _ _ b=>b.erase
 |.skip=>.skip
 |.ret=>.ret
 |.exit id=>.exit id
 |.bP l=>.bP l
def aP.oZ(B n:Nat):aP→Prop
 |.seq a b=>a.oZ B n∧b.oZ B n
 |.cond _ a b=>a.oZ B n∧b.oZ B n
 |.block _ b=>b.oZ B n
 |.loop b=>b.oZ B n
 |.cut c d b=>B≤c∧n≤d∧b.oZ B n
 |_=>True
theorem agR{x y:aP}(h:aP.seq x y=M.erase)(d:¬∃B n c,M=aP.cut B n c):∃a b,M=.seq a b∧x=a.erase∧y=b.erase:=by
 cases M with
 |seq a b=>simp only[aP.erase,aP.seq.injEq]at h;exact⟨a,b,rfl,h⟩
 |cut B n c=>exact absurd ⟨B,n,c,rfl⟩ d
 |_=>simp only[aP.erase]at h;cases h
theorem agM{x y:aP}{f:Fr→V}(h:aP.cond f x y=M.erase)(i:¬∃B n c,M=aP.cut B n c):∃a b,M=.cond f a b∧x=a.erase∧y=b.erase:=by
 cases M with
 |cond g a b=>simp only[aP.erase,aP.cond.injEq]at h;obtain⟨rfl,d,e⟩:=h;exact⟨a,b,rfl,d,e⟩
 |cut B n c=>exact absurd ⟨B,n,c,rfl⟩ i
 |_=>simp only[aP.erase]at h;cases h
theorem agL{x:aP}(b:aP.block h x=M.erase)(e:¬∃B n c,M=aP.cut B n c):∃a,M=.block h a∧x=a.erase:=by
 cases M with
 |block j a=>simp only[aP.erase,aP.block.injEq]at b;obtain⟨rfl,d⟩:=b;exact⟨a,rfl,d⟩
 |cut B n c=>exact absurd ⟨B,n,c,rfl⟩ e
 |_=>simp only[aP.erase]at b;cases b
theorem agO{x:aP}(h:aP.loop x=M.erase)(c:¬∃B n b,M=aP.cut B n b):∃a,M=.loop a∧x=a.erase:=by
 cases M with
 |loop a=>simp only[aP.erase,aP.loop.injEq]at h;exact⟨a,rfl,h⟩
 |cut B n b=>exact absurd ⟨B,n,b,rfl⟩ c
 |_=>simp only[aP.erase]at h;cases h
theorem agP{l:List c6}(h:aP.bP l=M.erase)(c:¬∃B n b,M=aP.cut B n b):M=.bP l:=by
 cases M with
 |bP a=>simp only[aP.erase,aP.bP.injEq]at h;rw[h]
 |cut B n b=>exact absurd ⟨B,n,b,rfl⟩ c
 |_=>simp only[aP.erase]at h;cases h
theorem NG(h:aP.skip=M.erase)(b:¬∃B n a,M=aP.cut B n a):M=.skip:=by
 cases M with
 |skip=>rfl
 |cut B n a=>exact absurd ⟨B,n,a,rfl⟩ b
 |_=>simp only[aP.erase]at h;cases h
theorem agQ(h:aP.ret=M.erase)(b:¬∃B n a,M=aP.cut B n a):M=.ret:=by
 cases M with
 |ret=>rfl
 |cut B n a=>exact absurd ⟨B,n,a,rfl⟩ b
 |_=>simp only[aP.erase]at h;cases h
theorem agN(h:aP.exit a=M.erase)(c:¬∃B n b,M=aP.cut B n b):M=.exit a:=by
 cases M with
 |exit j=>simp only[aP.erase,aP.exit.injEq]at h;rw[h]
 |cut B n b=>exact absurd ⟨B,n,b,rfl⟩ c
 |_=>simp only[aP.erase]at h;cases h
variable{I:af}
theorem Cut.down{B:Nat}(h:B≤a)(b:Cut a c I):Cut B c I:=
 ⟨fun y=>(b.sub y).imp id fun⟨d,e⟩=>⟨cH h d,e⟩,b.next,b.bD⟩
section
variable {P:Program}{G B n:Nat}{N:eT}{T:cc}
theorem asi(hT:cT P T)(b5:jV P N)(gb:P.follows .mixedOrders=true):∀(m:Nat) (c:Code) (k:aP),SizeOf.sizeOf c+SizeOf.sizeOf k≤m→comp N T c=some k.erase→k.oZ B n→codeOk G n c=true→∀(F:Fr) (H:af) (Q:X→Fr→af→Prop),wp P G k F H Q→iQ P G B n false c F H Q:=by
 intro m;induction m with
 |zero=>
  intro c k q;cases k<;>simp at q
 |succ m r=>
  intro c k q d p v F H Q h;by_cases o:∃E L D,k=.cut E L D
  ·obtain⟨E,L,D,rfl⟩:=o;obtain⟨O,S,s,u,Z⟩:=h;obtain⟨V,W,g3⟩:=p;refine SU (s.down V) (fun t ht=>u t (eF ht W)) (r c D ?_ d g3 v O S Q Z);simp at q;omega
  cases c with
  |skip=>
   have d:some aP.skip=some k.erase:=d;cases NG (Option.some.inj d) o;exact DA h
  |region id ad U=>
   obtain⟨l,hp,d⟩:=av.1 (show an (plan N T ad.toList U) (fun l=>some (aP.bP l))=some k.erase from d);cases agP (Option.some.inj d) o;exact Dw hT b5 gb v hp h
  |seq a b=>
   obtain⟨x,w,d⟩:=av.1 (show an (comp N T a) (fun x=>an (comp N T b) fun y=>some (aP.seq x y))=some k.erase from d);obtain⟨y,C,d⟩:=av.1 d;obtain⟨A,kb,rfl,rfl,rfl⟩:=agR (Option.some.inj d) o;obtain⟨s,u⟩:=(cC _ _).mp (show and (codeOk G n a) (codeOk G n b)=true from v);simp at q;refine Dz (Ax (fun e M R g=>?_) (r a A aa w p.1 s F H _ h));cases e with
   |norm=>exact r b kb aa C p.2 u M R Q g
   |ret=>exact g
   |exit i=>exact g
  |cond x a b=>
   obtain⟨f,K,d⟩:=av.1 (show an (hH x) (fun f=>an (comp N T a) fun x=>an (comp N T b) fun y=>some (aP.cond f x y))=some k.erase from d);obtain⟨al,w,d⟩:=av.1 d;obtain⟨y,C,d⟩:=av.1 d;obtain⟨A,kb,rfl,rfl,rfl⟩:=agM (Option.some.inj d) o;obtain⟨J,Y⟩:=(cC _ _).mp (show and (uk G n x) (and (codeOk G n a) (codeOk G n b))=true from v);obtain⟨s,u⟩:=(cC _ _).mp Y;simp at q;have z:r0 (f F) (wp P G A F H Q) (wp P G kb F H Q):=h;unfold r0 at z;split at z
   ·rename_i e;exact Aw J K e (r a A aa w p.1 s F H Q z)
   ·rename_i e;exact Aw J K e (r b kb aa C p.2 u F H Q z)
   ·exact z.elim
  |block id b=>
   obtain⟨x,w,d⟩:=av.1 (show an (comp N T b) (fun x=>some (aP.block id x))=some k.erase from d);obtain⟨kb,rfl,rfl⟩:=agL (Option.some.inj d) o;simp at q;exact Ds (r b kb aa w p v F H _ h)
  |loop b=>
   obtain⟨x,w,d⟩:=av.1 (show an (comp N T b) (fun x=>some (aP.loop x))=some k.erase from d);obtain⟨kb,rfl,rfl⟩:=agO (Option.some.inj d) o;obtain⟨I,j,s,u⟩:=h;simp at q;exact Dv I (fun i F H hi=>r b kb aa w p v F H _ (u i F H hi)) s
  |rangeFunc g ps a b=>cases d
  |exit id=>
   have d:some (aP.exit id)=some k.erase:=d;cases agN (Option.some.inj d) o;exact Dt h
  |scope b=>
   simp at q;exact Dy (r b k aa d p v F H Q h)
  |label l=>
   have d:some aP.skip=some k.erase:=d;cases NG (Option.some.inj d) o;exact Du h
  |goto l=>cases d
  |ret=>
   have d:some aP.ret=some k.erase:=d;cases agQ (Option.some.inj d) o;exact Dx h
  |refuse l=>cases d
variable{A:FuncId}{b:List V}
theorem T3(hT:cT P T)(b5:jV P N)(gb:P.follows .mixedOrders=true){fn:Func}{m:aP}{f:List gH}(u:N.get aJ A=some fn)(a:sy G N T fn=some (M,f))(w:m.erase=M)
 {Q:V→af→Prop} (hl:bL (cn b) fn.ntmps=true) (s:m.oZ c.next fn.ntmps) (h:jx P G m (fu f Q) (lV b 0 .nil) c):e4 P G (.fn A) b c Q:=by
 subst w;obtain⟨o,q,a⟩:=av.1 a;cases k:sF G fn o with
 |false=>rw[k]at a;cases a
 |true=>
  rw[k]at a;obtain⟨y,v,a⟩:=av.1 (show an (comp N T o) (fun M=>an (AR T fn.results.toList) fun r=>some (M,r))=some (m.erase,f)from a);obtain⟨z,p,a⟩:=av.1 a;cases a;have t:codeOk G fn.ntmps o=true:=by
   unfold sF at k;rw[cC,cC]at k;exact k.2.1
  refine D4 hT b5 u q (by rw[k,hl];rfl) (Ax (fun x n j g=>?_) (asi hT b5 gb _ o m (aF _) v s t _ _ _ h));cases x with
  |exit i=>exact g.elim
  |norm=>
   refine⟨aE,?_⟩;have d:qi Q j (lK n j f):=g;cases e:lK n j f with
   |none=>rw[e]at d;exact d.elim
   |some l=>rw[e]at d;exact⟨l,(Co p).trans e,d⟩
  |ret=>
   refine⟨aE,?_⟩;have d:qi Q j (lK n j f):=g;cases e:lK n j f with
   |none=>rw[e]at d;exact d.elim
   |some l=>rw[e]at d;exact⟨l,(Co p).trans e,d⟩
end
def k9(f:Nat→V):Nat→Fr
 |0=>.nil
 |n+1=>put (k9 f n) (some n) (f n)
theorem qI(f:Nat→V):∀ {n t:Nat},t<n→rd t (k9 f n)=f t
 |n+1,t,h=>by
  show rd t (put (k9 f n) (some n) (f n))=_;rw[G7];by_cases e:n=t
  ·rw[ao e,e]
  ·rw[aj e];exact qI f aa
section
variable {P:Program}{G:Nat}{F:Fr}{H:af}{R:X→Fr→af→Prop}
theorem Ii{B:Nat}(b:af)(f:Nat→V)(d:Cut B H b)(e:∀t,t<a→bO H b (rd t F) (f t))(h:jx P G M R (k9 f a) b):jx P G (.cut B a M) R F H:=
 ⟨k9 f a,b,d,fun t c=>by rw[show(k9 f a).get V.undef t=rd t (k9 f a)from rfl,qI f c];exact e t c,h⟩
@[go_sem]theorem atz{F:Fr}{H:af}(b:Bool)(c:bQ):qY P G b c i e F H (.aA [])=e (put F i V.undef) H:=rfl
def dL(g:List V→Option aX)(a:List (Fr→V)):bQ:=.pu a g
@[go_sem↓]theorem atj(g:List V→Option aX)(a:List (Fr→V)):dV P G (dL g a) i F H e=gx i e F H (g (vals a F)):=rfl
end
theorem u0{a b c:Nat}(h:c≤1):dc [.int .u64 (a:Int),.int .u64 (b:Int),.int .u64 (c:Int)]=some (.val (.aA [.int .u64 (((a+b+c)%18446744073709551616:Nat):Int),.int .u64 (((a+b+c)/18446744073709551616:Nat):Int)])):=by
 show aQ (bL c 1) _=_;rw[ki h];rfl
theorem CO{a b c:Nat}(h:c≤1):c_ [.int .u64 (a:Int),.int .u64 (b:Int),.int .u64 (c:Int)]=some (.val (.aA [.int .u64 (((a+18446744073709551616-b-c)%18446744073709551616:Nat):Int),.int .u64 ((if b+c≤a then 0 else 1:Nat):Int)])):=by
 show aQ (bL c 1) (some (aX.val (.aA [_,.int .u64 (.ofNat (Bool.casesOn (motive:=fun _=>Nat) (bL (b+c) a) 1 0))])))=_;rw[ki h];by_cases e:b+c≤a
 ·rw[ki e,ao e];rfl
 ·rw[show bL (b+c) a=false from lq.2 fun d=>e ((fB _ _).1 d),aj e];rfl
inductive aH (H:af) (sz:Nat):V→List V→Nat→Prop
 |nil:aH H sz .ak [] 0
 |cells {b n g f:Nat}{xs:List V} (hb:H.get b=.cells xs g) (hg:H.get g=.bD b f) (hf:f≤b) (h0:g≠0) (hn:xs.length=n*sz) (hl:g<H.next) (ave:b<H.next):aH H sz (.slice b 0 n (.grown sz)) xs g
theorem xD(b:c.get h=.bD L u)(d:u≤a):c.fV a h=true:=gB.2 (.inr ⟨L,u,b,d⟩)
variable{b:List V}
theorem aH.other{v:V}{l:List V}(e:aH c a v b u)(i:aH c h r l L)(t:c.next≤I.next)(s:∀y,y<c.next→(L=0∨y≠L)→I.get y=c.get y)(w:L=0∨L≠u):aH I a v b u:=by
 cases e with
 |nil=>exact .nil
 |cells n q j g k hl p=>
  rename_i d m f;have o:L=0∨d≠L:=by
   cases i with
   |nil=>exact .inl rfl
   |cells kb A aR x C B z=>
    grind
  exact .cells (by grind) (by grind) j g k aa aa
theorem aH.push{v:V}(d:aH c a v b h)(o:cR):aH (c.push o) a v b h:=by
 cases d with
 |nil=>exact .nil
 |cells j k g e i hl f=>
  exact .cells (by simp_all [af.aY,aj];omega) (by simp_all [af.aY,aj];omega) g e i (Nat.lt_succ_of_lt hl) (Nat.lt_succ_of_lt f)
theorem aH.set{v:V}{y:Nat}{cs:List V}(d:aH c a v b h)(m:c.get y=.cells cs 0)(o:cR):aH (c.set y o) a v b h:=by
 cases d with
 |nil=>exact .nil
 |cells g k j f l hl i=>
  refine .cells ?_ ?_ j f l hl i
  ·rw[af.aK,aj (fun e=>?_)]
   ·exact g
   grind
  ·rw[af.aK,aj (fun e=>?_)]
   ·exact k
   grind
theorem aH.low{v:V}(e:aH c a v b h)(d:∀z,z<c.next→I.get z=c.get z)(m:c.next≤I.next):aH I a v b h:=by
 cases e with
 |nil=>exact .nil
 |cells g k j f l hl i=>exact .cells (by rw[d _ i];exact g) (by rw[d _ hl];exact k) j f l aa aa
theorem aH.slice{v:V}{f:List V}(e:aH c a v f h)(d:h≠0):∃b n,v=.slice b 0 n (.grown a):=by
 cases e with
 |nil=>exact absurd rfl d
 |cells i d k g m hl j=>exact⟨_,_,rfl⟩
theorem aH.ne{v:V}{cs:List V}{k:Nat}(d:aH c a v b h)(m:c.get u=.cells cs k):h=0∨u≠h:=by
 cases d with
 |nil=>exact .inl rfl
 |cells f j i e l hl g=>
  grind
theorem aH.len{v:V}(d:aH c a v b h)(e:0<a):c3 v=some (.val (.int .i64 ((b.length/a:Nat):Int))):=by
 cases d with
 |nil=>simp[c3];rfl
 |cells i m l g f hl j=>
  rw[f,uU _ e];rfl
theorem yR(d:c.get a=.cells b h)(hl:c.fV a h=true):c.cells? a=some b:=by
 unfold af.cells?;rw[d];show aQ (c.fV a h) _=_;rw[hl];rfl
theorem aH.cP{d:Cap}{g:Nat}(e:aH c u (.slice a h L d) b g)(k:Nat):c.cP a 0 k=cj b k:=by
 cases e with
 |cells f j i l n hl m=>
  unfold af.cP;rw[yR f (xD j i)];show cj (ej b 0) k=_;rw[dA]
theorem iU(h:b.length=a):cj b a=some b:=by
 simp_all [eZ,ao,b8]
theorem aH.dQ{H H2:af}{v:V}{i:List V}(j:aH H a v b h)(p:0<a)(l:∀y,h≠0→H.get y=.cells b h→H2.get y=.none)(c:cD H H2 b i):∃n,bO H H2 v (.row n i)∧n*a=b.length:=by
 cases j with
 |nil=>cases c;exact⟨0,.fL,aE⟩
 |cells d o m k g hl r=>
  rename_i q n f;refine⟨n,?_,g.symm⟩;by_cases e:n=0
  ·subst e;have:b=[]:=List.length_eq_zero_iff.1 aa;subst this;cases c;exact .fj _ _ _
  ·refine .row (m:=n*a) ?_ (Nat.mul_pos (lA e) p) (l _ k d) c;unfold af.cP;rw[yR d (xD o m)];show cj (ej b 0) (n*a)=_;rw[dA,iU g]
theorem qy(h:a≠0):fh a=false:=by
 cases a with
 |zero=>exact absurd rfl h
 |succ a=>rfl
theorem pe(b:a≤1099511627776∧a*h≤1099511627776):i_ a h=true:=by
 unfold i_;simp_all
section
variable {P:Program}{G:Nat}{F:Fr}{H:af}{d:Option Nat}{K:Fr→af→Prop}
theorem Ft{bytes n:Nat}{v:V}{new:List V}(k:aH H a v b h)(C:kn r=some n)(D:dX H a n r=some new)(J:n≠0)(hl:new.length=n*a)(u:0<a)(L:cK new=true)(s:b.length+new.length≤1073741824∧bytes≤1024)(Q:H.next≠0)
 (t:∀x i o,aH i a x (b++new) o→(h=0∧o=H.next+1∨h≠0∧o=h)→(∀y,y<H.next→(h=0∨y≠h)→i.get y=H.get y)→H.next<i.next→K (put F d x) i):gk d K F (fA a bytes [v,r] H):=by
 have z:fA a bytes [v,r] H=jJ a bytes v n new H:=by
  show an (kn r) (fun n=>an (dX H a n r) fun new=>jJ a bytes v n new H)=_;rw[C];show an (dX H a n r) _=_;rw[D];rfl
 have w:=qy J;have T:n≤n*a:=Nat.le_mul_of_pos_right n u;have B:∀(g:List V) (m:Nat),g.length=m*a→aH ((H.push (.cells g (Nat.succ H.next))).push (.bD H.next H.next)) a (.slice H.next 0 m (.grown a)) g (H.next+1):=by
  intro g m I;refine .cells (f:=H.next) ?_ ?_ (aF _) aa I ?_ ?_
  ·rw[af.aY,aj (by show¬(H.next+1=H.next);omega),af.aY,ao rfl]
  ·rw[af.aY,ao (show(H.push (.cells g (Nat.succ H.next))).next=H.next+1 from rfl)]
  ·show H.next+1<H.next+1+1;omega
  ·show H.next<H.next+1+1;omega
 have A:∀(g:List V) y,y<H.next→((H.push (.cells g (Nat.succ H.next))).push (.bD H.next H.next)).get y=H.get y:=by
  intro g y p;rw[af.aY,aj (by show¬(H.next+1=y);omega),af.aY,aj aa]
 rw[z];cases k with
 |nil=>
  have l:jJ a bytes .ak n new H=kJ H a n new:=by
   show Bool.casesOn (motive:=fun _=>Option (V×af)) (fh n) (aQ (i_ n bytes) (kJ H a n new)) _=_;rw[w,pe ⟨aa,cH (jX (aa:n≤1073741824) s.2) ag⟩];rfl
  rw[l];exact t _ _ _ (B new n hl) (.inl ⟨rfl,rfl⟩) (fun y p _=>A _ y p) (by show H.next<H.next+1+1;omega)
 |cells q k E j M R P=>
  rename_i c m f;have S:m≤m*a:=Nat.le_mul_of_pos_right m u;have G:H.cP c 0 (m*a)=some b:=by
   unfold af.cP;rw[yR q (xD k E)];show cj (ej b 0) (m*a)=_;rw[dA,iU M]
  have l:jJ a bytes (.slice c 0 m (.grown a)) n new H=some (.slice H.next 0 (m+n) (.grown a),(H.push (.cells (b++new) h)).set h (.bD H.next H.next)):=by
   show Bool.casesOn (motive:=fun _=>Option (V×af)) (fh n) (aQ (i_ (m+n) bytes) (aQ (and (bn a a) (cK new)) (an (H.cP c 0 (m*a)) fun O=>oW H a c (m+n) (cX O new)))) _=_;rw[w,pe ⟨aa,cH (jX (aa:m+n≤1073741824) s.2) ag⟩,L,show bn a a=true from tC a,G];show oW H a c (m+n) (cX b new)=_;unfold oW;rw[q];show cR.casesOn (motive:=fun _=>Option (V×af)) (H.get h) _ _ _ _=_;rw[k];show aQ (and (bn c c) (!(fh h))) _=_;rw[show bn c c=true from tC c,qy j,iH];rfl
  rw[l];refine t _ _ h ?_ (.inr ⟨j,rfl⟩) (fun y p N=>?_) (by show H.next<H.next+1;omega)
  ·refine .cells (f:=H.next) ?_ ?_ (aF _) j (by grind) ?_ ?_
   ·simp_all [af.aK,aj,af.aY,ao];omega
   ·rw[af.aK,ao rfl]
   ·show h<H.next+1;omega
   ·show H.next<H.next+1;omega
  ·rw[af.aK,aj (fun e=>(N.resolve_left j) e.symm),af.aY,aj aa]
end
def cm(l:List UInt8):List V:=l.map fun c=>V.int .u8 (c.toNat:Int)
theorem DT:∀l:List UInt8,bytesOf (cm l)=some l
 |[]=>rfl
 |c::l=>by
  show aQ (bL (Nat.succ c.toNat) 256) (an (bytesOf (cm l)) fun r=>some (g6 c.toNat::r))=_;rw[DT l,ki (by have:=c.toNat_lt;omega)];show some (g6 c.toNat::l)=_;simp
theorem jh(l:List UInt8):(cm l).length=l.length:=by simp[cm]
variable{j:List UInt8}
theorem aH.str{v:V}(d:aH c 1 v (cm j) h):ta [v] c=some (.str j):=by
 cases f:v with
 |ak=>
  subst f;generalize e:cm j=i at d
  cases d;cases j with
  |nil=>rfl
  |cons a j=>cases e
 |slice b o n l=>
  subst f;have g:=d.cP n;generalize e:cm j=i at d g
  cases d with
  |cells p t r m w u q=>
   show an (c.cP b 0 n) (fun k=>an (bytesOf k) fun s=>some (V.str s))=some (V.str j);rw[g,iU aa,←e];show an (bytesOf (cm j)) _=_;rw[DT];rfl
 |_=>subst f;generalize cm j=i at d;cases d
theorem gA{H:af}{bytes:Nat}{v:V}{new:List V}(p:aH H a v b h)(hl:new.length=a)(s:0<a)(r:cK new=true)(o:b.length+a≤1073741824∧bytes≤1024)
 (q:∀g c f,aH c a g (b++new) f→(h=0∧H.next<f∨h≠0∧f=h)→(∀y,y<H.next→(h=0∨y≠h)→c.get y=H.get y)→H.next<c.next→e (put m i g) c):gk i e m (fA a bytes [v,.slice H.next 0 1 (.known 1)] (H.push (.cells new 0))):=by
 refine Ft (n:=1) (new:=new) (p.push _) rfl ?_ ag (by rw[hl,iP]) s r (by rw[hl];exact o) (sj _) ?_
 ·show(H.push (.cells new 0)).cP H.next 0 (1*a)=some new
  simp_all [fI,af.aY,ao,dA,iP,iU]
 ·intro g c f j h2 k l;refine q g c f j ?_ (fun y t u=>?_) ?_
  ·rcases h2 with⟨h2,n⟩|h2
   ·exact .inl ⟨h2,by rw[n];show H.next<H.next+1+1;omega⟩
   ·exact .inr h2
  ·rw[k y (Nat.lt_succ_of_lt t) u,af.aY,aj aa]
  ·exact Nat.lt_of_succ_lt l
theorem Nv{bytes:Nat}{v:V}(k:aH c 1 v b a)(n:r.one=true)(j:b.length+1≤1073741824∧bytes≤1024)
 (l:∀h f g,aH f 1 h (b++[r]) g→(a=0∧c.next<g∨a≠0∧g=a)→(∀y,y<c.next→(a=0∨y≠a)→f.get y=c.get y)→c.next<f.next→e (put m i h) f):gk i e m (fA 1 bytes [v,.slice c.next 0 1 (.known 1)] (c.push (.cells [r] 0))):=
 gA k rfl ag (by show and r.one true=true;rw[n];rfl) j l
theorem Gg(d:c.fV u L=true):sN false a h c u (.cells b L)=cO b h:=by
 show(match c.fV u L,false with|true,false=>_|true,true=>_|false,_=>_)=_;rw[d]
section
mutual
theorem g7.free{σ:Nat→Nat}{k:Nat}:∀ {v:V},bA v→g7 σ k v v
 |_,.bool b=>.bool b
 |_,.int k n=>.int k n
 |_,.str s=>.str s
 |_,.ja=>.ja
 |_,.ak=>.ak
 |_,.emp=>.emp
 |_,.j6=>.j6
 |_,.func f h1 h2=>.func f (jZ.free h1) (jZ.free h2)
 |_,.kM=>.kM
 |_,.kN=>.kN
 |_,.agg h=>.agg (jZ.free h)
 |_,.aA h=>.aA (jZ.free h)
 |_,.any=>.any _
 |_,.cell=>.cell rfl
 |_,.row n h=>.row n (jZ.free h)
 |_,.dh j h=>.dh j (jZ.free h)
 |_,.gT=>.gT
theorem jZ.free{σ:Nat→Nat}{k:Nat}:∀ {l:List V},bX l→jZ σ k l l
 |_,.nil=>.nil
 |_,.cons h h'=>.cons (g7.free h) (jZ.free h')
end
def oq(G b:Nat)(y:Nat):Nat:=if y=G then b else y
section
variable {P:Program}{G:Nat}{φ:aG}{H:af}{w:World}
def af.one(G n:Nat)(a:List V):af:=⟨((af.zero G).push (.cells a 0)).m,n⟩
theorem af.k6{G:Nat}(y:Nat):(af.one G a b).get y=if y=G then .cells b 0 else .none:=by
 show((af.zero G).push (.cells b 0)).get y=_;rw[af.aY,af.e7];show(if G=y then _ else _)=_
 grind
variable{Q:Loc}
theorem tg(b:φ.view (oq G a) (G+1) h=some Q):(h=G∧φ a=some Q)∨(h<G∧φ h=some Q):=by
 obtain⟨d,c⟩:=aG.nF b;unfold oq at c
 grind
theorem Rel.one(d:Rel φ H w)(C:H.get h=.cells b 0)(F:bX b)(J:G≤h):Rel (φ.view (oq G h) (G+1)) (af.one G (G+1) b) w:=by
 have t:∀ {y:Nat}{n:List V}{g:Nat},(af.one G (G+1) b).get y=.cells n g→y=G∧n=b∧g=0:=by
  intro y n g e;rw[af.k6]at e;split at e
  ·grind
  ·cases e
 have L:∀ {y a A:Nat},(af.one G (G+1) b).get y≠ .bD a A:=by
  intro y a A e;rw[af.k6]at e;split at e<;>cases e
 refine⟨?_,?_,?_,?_,?_,?_,?_,?_,?_,?_,?_⟩
 ·intro y l n g i v j m p B;obtain⟨rfl,rfl,rfl⟩:=t m;rcases tg j with⟨_,e⟩|⟨o,_⟩
  ·obtain⟨I,u,z⟩:=d.cell e C rfl B;exact⟨I,u,aL.free (φ:=φ) (ψ:=φ.view (oq y h) (y+1)) (fun _ _ e=>e) (bX.iff.1 F _ (eN B)) z⟩
  ·omega
 ·intro y l i e o;rcases tg e with⟨_,e⟩|⟨_,e⟩
  ·exact d.room e o
  ·exact d.room e o
 ·intro y l n g j m;obtain⟨rfl,rfl,rfl⟩:=t m;rcases tg j with⟨_,e⟩|⟨o,_⟩
  ·exact d.len e C
  ·omega
 ·intro y N l M j m p K;rcases tg j with⟨u,q⟩|⟨u,q⟩<;>rcases tg m with⟨z,r⟩|⟨z,r⟩
  ·omega
  ·rcases d.inj q r p aa with⟨_,_,g,E,s,_⟩|⟨s,_⟩
   ·grind
   grind
  ·rcases d.inj r q p.symm aa with⟨_,_,g,E,s,_⟩|⟨s,_⟩
   ·grind
   grind
  ·exact .inr ⟨by rw[af.k6,aj aa],by rw[af.k6,aj aa]⟩
 ·intro y D;have D:G+1≤y:=D;exact⟨aj aa,by rw[af.k6,aj aa]⟩
 ·intro y l e;rcases tg e with⟨_,e⟩|⟨_,e⟩
  ·exact d.loc e
  ·exact d.loc e
 ·grind
 ·grind
 ·grind [af.k6]
 ·intro c x e;refine(d.fH e).keep rfl ?_;intro y l j m;rcases tg j with⟨_,f⟩|⟨k,_⟩
  ·have:=(d.fH e).off _ _ f m
   grind
  ·rw[af.k6,aj aa]
 ·intro y n g e;obtain⟨_,_,rfl⟩:=t e;exact m7 _
variable{A:FuncId}
theorem Kk{args2:List V}{L:List V}{R:V→List V→Prop}(I:H.get u=.cells L 0)(ba:bX L)(a':G≤u)(hm:∃o,V.ptr u o∈b)(ha:jZ (oq G u) (G+1) b args2)
 (N:e4 P G (.fn A) args2 (af.one G (G+1) L) fun v1 s=>∃v jy,s.get G=.cells jy 0∧bX jy∧bO s (af.one G s.next jy) v1 v∧bA v∧R v jy):
 e4 P G (.fn A) b H fun v s=>∃jy,R v jy∧s=H.set u (.cells jy 0):=by
 refine⟨N.1,fun φ w a5 p hg ap=>(N.2 (φ.view (oq G u) (G+1)) w a5 (p.one I ba a') ?_ (bp.view ha ap)).mono ?_⟩
 ·intro g bj;obtain⟨b',e⟩:=hg g bj;refine⟨b',aG.th aa ?_⟩;show φ (if g=G then u else g)=_
  grind
 ·rintro e w' ⟨v1,v',s,ψ,rfl,q,bv,v,jy,ci,bb,be,bc,hR⟩;obtain⟨D,Y⟩:∃l,φ u=some l:=by
   obtain⟨o,hm⟩:=hm;obtain⟨i,hi⟩:=List.getElem?_of_mem hm;obtain⟨x,_,hx⟩:=ap.get i _ hi;cases hx with
   |ptr h=>exact⟨_,h⟩
  have ch:u<H.next:=tF fun h=>by
   have:=(p.top h).1
   grind
  have bs:φ.view (oq G u) (G+1) G=some D:=aG.th aa (by show φ (if G=G then u else G)=_;grind);have co:∀y,y<G→s.get y=.none:=by
   intro y m;have F:(af.one G (G+1) L).get y=.none:=by rw[af.k6,aj aa]
   cases d:φ.view (oq G u) (G+1) y with
   |some l=>exact(q.jN d F).1
   |none=>
    rw[q.nX (aa:y<G+1) d (fun a u j=>by rw[F]at j;cases j)];exact F
  have W:Cut (G+1) s (af.one G s.next jy):=by
   refine⟨fun y=>?_,rfl,fun y y' c1 c2 g F C M h3=>?_⟩
   ·rw[af.k6]
    grind
   ·grind [af.k6]
  have Q:=q.rel.cut W;have O:=(q.ye (aF (G+1))).trans (q.rel.xj W q.next)
  have a1:=aL.dQ q.rel W be bv;generalize ψ.dQ s (af.one G s.next jy) w'=B at Q O a1
  have ad:B G=some D:=O.le (mq G) bs;have hz:(af.one G s.next jy).get G=.cells jy 0:=by rw[af.k6,ao rfl]
  have a0:∀ {n:Nat},n<w.heap.size→D.c≠n→w'.heap[n]? =w.heap[n]? :=by
   intro n N aw;by_cases I:∃S l,φ.view (oq G u) (G+1) S=some l∧l.c=n
   ·obtain⟨S,l,d,rfl⟩:=I;rcases tg d with⟨_,A⟩|⟨k,_⟩
    ·grind
    ·exact(q.jN d (by rw[af.k6,aj aa])).2
   ·exact q.lY N (fun u l d j=>I ⟨u,l,d,j⟩)
  have am:∀ {y:Nat}{l:Loc},y≠u→φ y=some l→D.c≠l.c:=by
   intro y l m e h;rcases p.inj Y e h (fun e=>m e.symm)with⟨_,_,g,F,C,_⟩|⟨C,_⟩
   ·grind
   ·rw[I]at C;cases C
  have bd:∀n x,B.im n=some x→φ.im n=some x∨w.heap.size≤n∨D.c=n:=by
   intro n x e;rcases O.nk n x e with h|h|⟨S,l,C,M,h3⟩
   ·exact .inl h
   ·exact .inr (.inl h)
   ·simp_all [tg,af.k6,aj]
  have Z:φ.le ⟨φ.f,B.im⟩:=⟨fun _ _ e=>e,O.xA⟩;have ar:∀ {x:V}{E:Value},bA x→aL B x E→aL ⟨φ.f,B.im⟩ x E:=fun h r=>aL.free (φ:=B) (ψ:=⟨φ.f,B.im⟩) (fun _ _ e=>e) h r
  have t:∀ {y:Nat},y≠u→(H.set u (.cells jy 0)).get y=H.get y:=fun h=>by simp_all [af.aK,aj];omega
  have ac:(H.set u (.cells jy 0)).get u=.cells jy 0:=by rw[af.aK,ao rfl]
  have bo:Rel ⟨φ.f,B.im⟩ (H.set u (.cells jy 0)) w':=by
   refine⟨?_,fun d j=>q.same.free (p.room d j),?_,?_,?_,fun d=>eF (p.loc d) q.size,?_,?_,?_,?_,?_⟩
   ·intro y l T g i x d j z U;by_cases m:y=u
    ·subst m;rw[ac]at j;cases j;have d:φ y=some l:=d;rw[Y]at d;cases d;obtain⟨E,J,K⟩:=Q.cell ad hz rfl U;exact⟨E,J,ar (bX.iff.1 bb _ (eN U)) K⟩
    ·rw[t m]at j;have hl:H.fV y g=true:=by
      rcases gB.1 z with e|⟨a,n,cf,a6⟩
      ·exact gB.2 (.inl e)
      ·refine gB.2 (.inr ⟨a,n,?_,a6⟩)
       grind
     obtain⟨E,J,K⟩:=p.cell d j hl U;refine⟨E,?_,K.mono Z⟩;unfold World.cell? at J⊢
     grind
   ·intro y l T g d j;by_cases m:y=u
    ·subst m;rw[ac]at j;cases j;have d:φ y=some l:=d;rw[Y]at d;cases d;exact Q.len ad hz
    ·rw[t m]at j;exact p.len d j
   ·intro y y' l l' d j z aw;have m:y≠u:=fun e=>by
     grind
    have b1:y'≠u:=fun e=>by
     grind
    rw[t m,t b1];exact p.inj d j z aw
   ·intro y m;have m:H.next≤y:=m
    obtain⟨C,M⟩:=p.top m
    grind
   ·intro y T g b2 a7 d j z;have m:y≠u:=fun e=>by grind
    have X:g≠u:=fun e=>by grind
    rw[t m]at d;rw[t X]at z;exact p.mem d j z
   ·intro g b2 a7 z;have X:g≠u:=fun e=>by grind
    rw[t X]at z;exact p.mG z
   ·intro y l o d j;have m:y≠u:=fun e=>by grind
    rw[t m]at j;obtain⟨J,K⟩:=p.cl d j;exact⟨J,K.mono Z (a0 (p.loc d) (am m d))⟩
   ·intro n x e;have hi:=Q.fH e;refine⟨hi.obj,hi.kind,fun y l d j=>?_⟩;have d:φ y=some l:=d;rcases bd n x e with h|h|h
    ·have h3:=(p.fH h).off y l d j
     grind
    ·have:=p.loc d;omega
    ·have:=hi.off G D ad h
     grind
   ·intro y T g e;by_cases m:y=u
    ·rw[m,ac]at e;cases e;show 0<H.next
     omega
    ·rw[t m]at e;exact p.mJ e
  refine⟨v,v',H.set u (.cells jy 0),⟨φ.f,B.im⟩,rfl,⟨bo,Z,fun C M=>absurd (C.symm.trans M) aE,?_,aF _,?_,q.size,q.same,?_,?_⟩,ar bc a1,jy,hR,rfl⟩
  ·grind
  ·grind
  ·intro y l d j;have m:y≠u:=fun e=>by grind
   exact⟨by rw[t m];exact j,a0 (p.loc d) (am m d)⟩
  grind
end
end
def FM(n:Nat)(H:af):V→V→Bool:=
 Nat.rec (motive:=fun _=>V→V→Bool) (fun _ _=>false) (fun _ c v d=>match v,d with
  |.slice b o k _,.row f a=>and (bn k f) (match k,a with
    |0,[]=>true
    |0,_=>false
    |_,[]=>false
    |_,_=>(match H.cP b o (cn a)with
     |some e=>e8 c e a
     |none=>false))
  |.ak,.row 0 []=>true
  |.emp,.row 0 []=>true
  |.gT,.row 0 []=>true
  |.agg x,.agg y=>e8 c x y
  |.aA x,.aA y=>e8 c x y
  |v,d=>rX 20 v d) n
theorem Bx{f:V→V→Bool}(g:∀v i,f v i=true→bO c I v i):∀ {l d:List V},e8 f l d=true→cD c I l d
 |[],[],_=>.nil
 |[],_::_,h=>by cases h
 |_::_,[],h=>by cases h
 |a::l,b::d,h=>by
  have e:and (f a b) (e8 f l d)=true:=h;rw[cC]at e;exact .cons (g a b e.1) (Bx g e.2)
theorem ahD:∀(n:Nat) (v g:V),FM n c v g=true→bO c (af.zero h) v g:=by
 intro n;induction n with
 |zero=>intro v g d;cases d
 |succ n i=>
  intro v g d;have p:rX 20 v g=true→bO c (af.zero h) v g:=fun d=>by rw[Ig _ _ _ d];exact .same _
  unfold FM at d;simp only at d;split at d
  ·rename_i b o m q s j;rw[cC]at d;obtain⟨k,f⟩:=d;have e:=(beq_eq _ _).1 k;subst e;cases m with
   |zero=>
    cases j with
    |nil=>exact .fj _ _ _
    |cons a l=>cases f
   |succ m=>
    cases j with
    |nil=>cases f
    |cons a l=>
     simp only at f;cases hl:c.cP b o (cn (a::l))with
     |none=>rw[hl]at f;cases f
     |some r=>
      rw[hl]at f;exact .row hl (m7 _) (af.e7 _ _) (Bx i f)
  ·exact .fL
  ·exact .Ct
  ·exact .Cs
  ·exact .agg (Bx i d)
  ·exact .aA (Bx i d)
  ·exact p d
def Bm(n:Nat):V→Bool:=
 Nat.rec (motive:=fun _=>V→Bool) (fun _=>false) (fun _ a v=>match v with
  |.bool _=>true
  |.int _ _=>true
  |.str _=>true
  |.ja=>true
  |.ak=>true
  |.agg x=>l5 a x
  |.aA x=>l5 a x
  |.row _ x=>l5 a x
  |_=>false) n
theorem Bt{f:V→Bool}(a:∀v,f v=true→bA v)(h:l5 f b=true):bX b:=bX.iff.2 fun v c=>a v (uc.1 h v c)
theorem NL:∀(n:Nat) (v:V),Bm n v=true→bA v:=by
 intro n;induction n with
 |zero=>intro v h;cases h
 |succ n a=>
  intro v h;unfold Bm at h;cases v<;>first|(exact .bool _)|(exact .int _ _)|(exact .str _)|(exact .ja)|(exact .ak)|(exact .agg (Bt a h))|(exact .aA (Bt a h))|(exact .row _ (Bt a h))|(cases h)
def pL(G:Nat)(C:jS)(f:FuncId)(a:List V)(r:V):Bool:=
 match C (.fn f) a (af.zero G)with
 |some (v,H)=>and (FM 20 H v r) (and (Bm 20 r) (l5 (Bm 20) a))
 |none=>false
variable{A:FuncId}
theorem rP{P:Program}{C:jS}(i:oL P a C)(h:pL a C A b r=true):∀H,e4 P a (.fn A) b H fun v c=>v=r∧c=H:=by
 unfold pL at h;cases e:C (.fn A) b (af.zero a)with
 |none=>rw[e]at h;cases h
 |some x=>
  obtain⟨v,c⟩:=x;rw[e]at h;simp only[cC]at h;obtain⟨d,f,g⟩:=h;have j:=NL _ _ f;refine pI (R:=fun v=>v=r) (Bt (NL 20) g) ((i e).mono ?_);rintro l k ⟨rfl,rfl⟩;exact⟨r,ahD _ _ _ d,j,rfl⟩
def aP.l8:aP→Bool
 |.seq a b=>a.l8&&b.l8
 |.cond _ a b=>a.l8&&b.l8
 |.block _ b=>b.l8
 |.loop b=>b.l8
 |.cut _ _ _=>false
 |_=>true
def aP.cutAt(B n:Nat):Nat→aP→aP
 |d+1,.seq a b=>.seq a (aP.cutAt B n d b)
 |0,c=>.cut B n c
 |_+1,c=>c
theorem vJ:∀ {c:aP},c.l8=true→c.erase=c
 |.seq a b,h=>by
  have h:=(cC _ _).mp (show(a.l8&&b.l8)=true from h);show aP.seq _ _=_;rw[vJ h.1,vJ h.2]
 |.cond x a b,h=>by
  have h:=(cC _ _).mp (show(a.l8&&b.l8)=true from h);show aP.cond _ _ _=_;rw[vJ h.1,vJ h.2]
 |.block i b,h=>by
  show aP.block _ _=_;rw[vJ (c:=b) h]
 |.loop b,h=>by
  show aP.loop _=_;rw[vJ (c:=b) h]
 |.cut _ _ _,h=>by cases h
 |.skip,_=>rfl
 |.ret,_=>rfl
 |.exit _,_=>rfl
 |.bP _,_=>rfl
theorem vK{B:Nat}:∀ {c:aP},c.l8=true→c.oZ B h
 |.seq a b,d=>by
  have d:=(cC _ _).mp (show(a.l8&&b.l8)=true from d);exact⟨vK d.1,vK d.2⟩
 |.cond x a b,d=>by
  have d:=(cC _ _).mp (show(a.l8&&b.l8)=true from d);exact⟨vK d.1,vK d.2⟩
 |.block i b,d=>vK (c:=b) d
 |.loop b,d=>vK (c:=b) d
 |.cut _ _ _,d=>by cases d
 |.skip,_=>trivial
 |.ret,_=>trivial
 |.exit _,_=>trivial
 |.bP _,_=>trivial
theorem KE{B:Nat}:∀ {d:Nat}{c:aP},(aP.cutAt B h d c).erase=c.erase
 |d+1,.seq a b=>by
  show aP.seq _ (aP.cutAt B h d b).erase=aP.seq _ _;rw[KE]
 |0,c=>by cases c<;>rfl
 |_+1,.cond _ _ _=>rfl
 |_+1,.block _ _=>rfl
 |_+1,.loop _=>rfl
 |_+1,.cut _ _ _=>rfl
 |_+1,.skip=>rfl
 |_+1,.ret=>rfl
 |_+1,.exit _=>rfl
 |_+1,.bP _=>rfl
theorem KF{B:Nat}(f:B≤u)(g:h≤L):∀ {d:Nat}{c:aP},c.oZ B h→(aP.cutAt u L d c).oZ B h
 |d+1,.seq a b,e=>⟨e.1,KF f g e.2⟩
 |0,c,e=>by cases c<;>exact⟨f,g,e⟩
 |_+1,.cond _ _ _,e=>e
 |_+1,.block _ _,e=>e
 |_+1,.loop _,e=>e
 |_+1,.cut _ _ _,e=>e
 |_+1,.skip,e=>e
 |_+1,.ret,e=>e
 |_+1,.exit _,e=>e
 |_+1,.bP _,e=>e
section
variable {P:Program}{G:Nat}{N:eT}{T:cc}
variable{H:V→af→Prop}
theorem D5(hT:cT P T)(b5:jV P N)(gb:P.follows .mixedOrders=true){a:Func}{f:List gH}(g:N.get aJ A=some a)(i:sy G N T a=some (M,f))(e:M.l8=true)(d n:Nat)(j:bL a.ntmps n=true)
 (hl:bL (cn b) a.ntmps=true) (h:jx P G (aP.cutAt c.next n d M) (fu f H) (lV b 0 .nil) c):e4 P G (.fn A) b c H:=
 T3 hT b5 gb g i (KE.trans (vJ e)) hl (KF (aF _) ((fB _ _).1 j) (vK e)) h
end
def B1(H:af):Nat→aN cR
 |0=>.nil
 |k+1=>(B1 H k).set .none k (H.get k)
def af.low(H:af)(k:Nat):af:=⟨B1 H k,H.next⟩
theorem af.qt(H:af):∀(k y:Nat),(H.low k).get y=if y<k then H.get y else .none
 |0,y=>by
  rw[aj (m5 _)];exact aN.get_nil _ _
 |k+1,y=>by
  show((B1 H k).set .none k (H.get k)).get .none y=_;rw[aN.aK];by_cases e:k=y
  ·rw[ao e,ao aa,e]
  ·rw[aj e];have:=af.qt H k y;rw[show(B1 H k).get .none y=(H.low k).get y from rfl,this];by_cases h:y<k
   ·rw[ao h,ao aa]
   ·rw[aj h,aj aa]
theorem Ec{B:Nat}(k:B≤a)(hl:∀y b g,y<a→c.get y=.cells b g→g=0):Cut B c (c.low a):=by
 refine⟨fun y=>?_,rfl,fun y l d e g f h i j=>?_⟩
 ·simp_all [af.qt,ao,aj];omega
 ·rw[af.qt]
  grind
theorem aH.ajd{v:V}(g:aH c a v b h)(d:h≠0):∃e f,c.get h=.bD e f:=by
 cases g with
 |nil=>exact absurd rfl d
 |cells j i l d m hl k=>exact⟨_,_,i⟩
theorem aH.tO{v:V}(i:aH c a v b h)(j:∀d f,c.get u≠ .bD d f):h=0∨u≠h:=by
 by_cases g:h=0
 ·exact .inl g
 ·obtain⟨d,f,e⟩:=i.ajd g
  grind
theorem aH.FT{v:V}(e:aH c h v b L)(f:0<h)(hl:∀y d L,y<a→c.get y=.cells d L→L=0)(k:b.length=u*h):bO c (c.low a) v (.row u b):=by
 obtain⟨m,i,j⟩:=e.dQ (H2:=c.low a) f (fun y g l=>by
  rw[af.qt,aj]
  grind) (cD.refl _)
 grind [Nat.eq_of_mul_eq_mul_right]
end Go.au
namespace Go.Proofs.YtddhncjmaahodaaGreatDoor
open Go.au
def nK:eT:=Oa eO
def HG(t:TypeId):Option (List TypeDesc):=bif bn t 45 then some [.string,.string]else bif bn t 300 then some [.string,.string,.int .i64]else none
theorem aql(t:TypeId)(ds:List TypeDesc)(h:HG t=some ds):Dm eO t ds:=by
 by_cases a:t=45
 ·subst a;cases h;exact⟨by kernel_rfl,by kernel_rfl,by kernel_rfl,by kernel_rfl⟩
 by_cases b:t=300
 ·subst b;cases h;exact⟨by kernel_rfl,by kernel_rfl,by kernel_rfl,by kernel_rfl⟩
 unfold HG at h;rw[show bn t 45=false from lq.2 fun e=>a (Nat.eq_of_beq_eq_true e),show bn t 300=false from lq.2 fun e=>b (Nat.eq_of_beq_eq_true e)]at h;cases h
def qj:cc:=R7 eO HG
theorem gb:eO.follows .mixedOrders=true:=by kernel_rfl
theorem hT:cT eO qj:=arC _ aql
theorem b5:jV eO nK:=ahy _
def yy(a:Func)(f:Nat)(c:aP)(l:List gH):Prop:=nK.get aJ f=some a∧sy 5 nK qj a=some (c,l)
variable{h:Nat}{M:aP}
theorem O8{c:Func}{l:List gH}(a:nK.get aJ h=some c:=by kernel_rfl)(b:sy 5 nK qj c=some (M,l):=by kernel_rfl):yy c h M l:=⟨a,b⟩
abbrev ah(z:Int):V:=.int .i64 z
abbrev ay(z:Int):V:=.int .u64 z
abbrev aC:V:=.bool false
abbrev bE:V:=.bool true
abbrev c5(f:FuncId)(a:List V)(H:af)(Q:V→af→Prop):Prop:=e4 eO 5 (.fn f) a H Q
abbrev bw(c:aP)(R:X→Fr→af→Prop)(F:Fr)(H:af):Prop:=jx eO 5 c R F H
variable{a:Nat}{b:List V}{c:af}{H:V→af→Prop}
theorem aT{d:Func}{l:List gH}(k:yy d a M l)(h:jx eO 5 M (fu l H) (lV b 0 .nil) c)(e:bL (cn b) d.ntmps=true:=by rfl):e4 eO 5 (.fn a) b c H:=oY hT b5 gb k.1 k.2 e h
def aS(f:Nat)(b:List V)(r:V):Prop:=∀H,c5 f b H fun v a=>v=r∧a=H
variable{r:V}
theorem cM(c:bX b)(d:bA r)(h:c5 a b (af.zero 5) fun v _=>v=r):aS a b r:=
 pI (R:=fun v=>v=r) c (e4.mono (Q:=fun v _=>v=r) (fun v _ e=>⟨v,.same v,by rw[e];exact d,e⟩) h)
end Go.Proofs.YtddhncjmaahodaaGreatDoor
namespace Go.au
variable{m:Fr}{c:af}{i:Option Nat}{e:Fr→af→Prop}{a:Nat}{h:Nat}
theorem xg{bytes n:Nat}{cs:List V}(j:c.get h=.cells [] 0)(r:0<n)(d:cs.length=n*a)(s:0<a)(l:n≤1073741824∧bytes≤1024)
 (o:∀f b,aH b a f cs (c.next+1)→(∀y,y<c.next→b.get y=c.get y)→b.next=c.next+2→e (put m i f) b):gk i e m (fA a bytes [.slice h 0 0 (.known 0),.row n cs] c):=by
 have k:dX c a n (.row n cs)=some cs:=iU d;have g:fA a bytes [.slice h 0 0 (.known 0),.row n cs] c=kJ c a n cs:=by
  show an (some n) (fun n=>an (dX c a n (.row _ cs)) fun p=>jJ a bytes (.slice h 0 0 (.known 0)) n p c)=_;show an (dX c a n (.row n cs)) _=_;rw[k];show Bool.casesOn (motive:=fun _=>Option (V×af)) (fh n) (aQ (i_ (0+n) bytes) (Bool.casesOn (motive:=fun _=>Option (V×af)) (bL (0+n) 0) (an (c.cP h 0 (0*a)) fun q=>kJ c a (0+n) (cX q cs)) (an (c.e3 h (0+0*a) cs) fun c=>some (V.slice h 0 (0+n) (.known 0),c)))) _=_;rw[qy aa,pe ⟨aa,cH (jX (aa:0+n≤1073741824) l.2) ag⟩,show bL (0+n) 0=false from by
   cases n with
   |zero=>omega
   |succ n=>rw[eJ];rfl,fI j]
  simp only[jg,dA,zl,xK,zC,BS,eJ]
 rw[g];refine o _ _ (.cells (f:=c.next) ?_ ?_ (aF _) aa d ?_ ?_) (fun y t=>?_) rfl
 ·rw[af.aY,aj (by show¬(c.next+1=c.next);omega),af.aY,ao rfl]
 ·rw[af.aY,ao (show(c.push (.cells cs (Nat.succ c.next))).next=c.next+1 from rfl)]
 ·show c.next+1<c.next+1+1;omega
 ·show c.next<c.next+1+1;omega
 ·rw[af.aY,aj (by show¬(c.next+1=y);omega),af.aY,aj aa]
theorem Ge:∀s t:List UInt8,e8 kP s t=decide (s=t)
 |[],[]=>rfl
 |[],_::_=>rfl
 |_::_,[]=>rfl
 |a::s,b::t=>by
  show and (kP a b) (e8 kP s t)=_;rw[Ge s t,H_];by_cases c:a=b
  ·by_cases d:s=t
   ·simp[c,d]
   ·simp[d]
  ·simp[c]
@[go_sem]theorem JR(s t:List UInt8):pQ (qn .eql) [.str s,.str t]=some (.val (.bool (decide (s=t)))):=by
 show h_ (e8 kP s t)=_;rw[Ge];rfl
@[go_sem]theorem auz(s t:List UInt8):pQ (qn .neq) [.str s,.str t]=some (.val (.bool (!decide (s=t)))):=by
 show h_ (!(e8 kP s t))=_;rw[Ge];rfl
variable{j:List UInt8}
theorem HI{lo hi:Option V}{l h:Nat}(a:jL lo hi j.length j.length=some (l,h))(b:l≤h)(c:h≤j.length):vZ j lo hi=some (.val (.str ((j.drop l).take (h-l)))):=by
 unfold vZ;rw[gV,a];show an (cj (ej j l) (h-l)) _=_;rw[kj,eZ,ao (by grind)];rfl
variable{o:IntKind}{s:Int}
theorem v7(h:0≤s∧s≤j.length):slice3 lg true false false [.str j,.int o s]=some (.val (.str (j.drop s.toNat))):=by
 show vZ j (some (.int o s)) none=_;rw[HI (l:=s.toNat) (h:=j.length) (sv (mA o h.1) rfl aa (aF _)) aa (aF _)]
 grind [b8,g5]
theorem CK(a:0≤s∧s≤j.length):slice3 lg false true false [.str j,.int o s]=some (.val (.str (j.take s.toNat))):=by
 show vZ j none (some (.int o s))=_;rw[HI (l:=0) (h:=s.toNat) (sv rfl (mA o a.1) aa aa) aa aa];simp
theorem oA{c:UInt8}(a:0≤s)(h:j[s.toNat]? =some c):kK [.str j,.int o s]=some (.val (.int .u8 (c.toNat:Int))):=by
 show an (gy (.int o s)) _=_;rw[mA o a];show an (cO j s.toNat) _=_;rw[gO,h];rfl
def so(P:Program)(G:Nat)(b:Bool)(d:Option Nat)(l:List c6)(Q:Fr→af→Prop)(F:Fr)(H:af)(r:Option V)(v:V):Prop:=match pg b v with
 |some true=>pZ P G d l Q F H r
 |some false=>gI P G l F H Q
 |none=>False
variable{n:Bool}{r:V}
@[congr]theorem atT{P:Program}{l:List c6}{b d:Option V}{v:V}(h:b=d)(f:v=r):so P a n i l e m c b v=so P a n i l e m c d r:=by rw[h,f]
section
variable {P:Program}{G:Nat}{F:Fr}{H:af}{Q:Fr→af→Prop}
@[go_sem↓]theorem at5(j:Nat)(b:Bool)(i:Nat)(g:Bool)(s:Nat)(x:Fr→V)(l:List c6):jY P G (rg j b i (bq g s x)::l) Q F H=so P G b (some i) l Q F H (iz g s [x F] H) (rd j F):=by
 show(wm ⟨fun F=>pg b (rd j F),some i,.rd [x] (iz g s)⟩ F H∧gI P G l F H Q)=_;unfold so;apply propext;cases e:pg b (rd j F)with
 |none=>
  refine⟨fun⟨h,_⟩=>?_,False.elim⟩;rcases h with h|⟨h,_⟩
  ·grind
  grind
 |some y=>
  cases y with
  |false=>exact⟨fun h=>h.2,fun h=>⟨.inl e,h⟩⟩
  |true=>
   show _↔pZ P G (some i) l Q F H (iz g s [x F] H);unfold pZ;rw[IX (w:=fun F=>pg b (rd j F)) e];exact Iff.rfl
@[go_sem]theorem atX(d:Option Nat)(l:List c6)(r:Option V):so P G true d l Q F H r (.bool true)=pZ P G d l Q F H r:=rfl
@[go_sem]theorem atU(d:Option Nat)(l:List c6)(r:Option V):so P G false d l Q F H r (.bool false)=pZ P G d l Q F H r:=rfl
@[go_sem]theorem atW(d:Option Nat)(l:List c6)(r:Option V):so P G true d l Q F H r (.bool false)=jY P G l Q F H:=rfl
@[go_sem]theorem atV(d:Option Nat)(l:List c6)(r:Option V):so P G false d l Q F H r (.bool true)=jY P G l Q F H:=rfl
@[go_sem]theorem atY(b:Bool)(d:Option Nat)(l:List c6)(r:Option V):so P G b d l Q F H r (.aA [])=jY P G l Q F H:=rfl
end
def af.kh(T:af)(n:Nat):af:=⟨T.m,n⟩
theorem af.sK(T:af)(n y:Nat):(T.kh n).get y=T.get y:=rfl
structure yC (G:Nat) (T:af):Prop where
 next:T.next=G
 top:∀y,G≤y→T.get y=.none
 low:∀y,T.get y=.none∨∃cs,T.get y=.cells cs 0∧bX cs
variable{b:List V}{u:Nat}
theorem yC.cells(d:yC a c)(e:c.get h=.cells b u):h<a∧u=0∧bX b:=by
 refine⟨tF fun i=>?_,?_⟩
 ·rw[d.top h i]at e;cases e
 ·rcases d.low h with g|⟨j,g,k⟩
  ·rw[g]at e;cases e
  grind
def Has(H T:af):Prop:=∀y a,T.get y=.cells a 0→H.get y=.cells a 0
section
variable {P:Program}{G:Nat}{φ:aG}{H T:af}{w:World}
theorem Rel.z8(f:Rel φ H w)(hT:yC G T)(m:Has H T):Rel (φ.view id G) T w:=by
 have A:∀ {y:Nat},H.get y=.none→T.get y=.none:=by
  intro y e;rcases hT.low y with h|⟨d,h,_⟩
  ·exact h
  ·rw[m y d h]at e;cases e
 refine⟨?_,?_,?_,?_,?_,?_,?_,?_,?_,?_,?_⟩
 ·intro y l d g i v b a j r;obtain⟨k,rfl,s⟩:=hT.cells a;obtain⟨E,B,C⟩:=f.cell (aG.nF b).2 (m y d a) rfl r;exact⟨E,B,aL.free (φ:=φ) (ψ:=φ.view id G) (fun _ _ e=>e) (bX.iff.1 s _ (eN r)) C⟩
 ·intro y l i e h;exact f.room (aG.nF e).2 h
 ·intro y l d g b a;obtain⟨k,rfl,s⟩:=hT.cells a;exact f.len (aG.nF b).2 (m y d a)
 ·intro y q l p b a j n;right;have u:∀ {y q:Nat}{l p:Loc},φ y=some l→φ q=some p→l.c=p.c→y≠q→T.get y=.none:=by
   intro y q l p b a j n;rcases hT.low y with h|⟨d,h,_⟩
   ·exact h
   ·rcases f.inj b a j n with⟨_,_,g,I,k,_⟩|⟨k,_⟩
    ·rw[m y d h]at k;grind
    grind
  exact⟨u (aG.nF b).2 (aG.nF a).2 j n,u (aG.nF a).2 (aG.nF b).2 j.symm (fun e=>n e.symm)⟩
 ·intro y t;rw[hT.next]at t
  exact⟨aj aa,hT.top y t⟩
 ·intro y l e;exact f.loc (aG.nF e).2
 ·intro y d g D z b a j;exact absurd (hT.cells b).2.1 a
 ·intro g D z e;rcases hT.low g with h|⟨d,h,_⟩
  ·rw[h]at e;cases e
  ·rw[h]at e;cases e
 ·intro y l o b a;rcases hT.low y with h|⟨d,h,_⟩
  ·rw[h]at a;cases a
  grind
 ·intro F x e;refine(f.fH e).keep rfl ?_;intro y l b a;exact A ((f.fH e).off _ _ (aG.nF b).2 a)
 ·intro y d g e;obtain⟨k,rfl,_⟩:=hT.cells e;rw[hT.next];omega
variable{A:FuncId}
theorem aoH(hT:yC G T){R:V→Prop}(ha:bX b)
 (O:e4 P G (.fn A) b T fun v1 t=>Has t T∧∃v,bO t (T.kh t.next) v1 v∧bA v∧R v) (H:af) (F:Has H T):
 e4 P G (.fn A) b H fun v t=>R v∧t=H:=by
 refine⟨O.1,fun φ w aw q hg a4=>(O.2 (φ.view id G) w aw (q.z8 hT F) ?_ (bp.free (φ:=φ) (ψ:=φ.view id G) (fun _ _ e=>e) ha a4)).mono ?_⟩
 ·intro g a8;obtain⟨bs,e⟩:=hg g a8
  grind [aG.th]
 ·rintro e Z ⟨v1,v',t,ψ,rfl,s,ba,ac,v,a6,U,hR⟩;have bj:∀y,y<G→t.get y=T.get y:=by
   intro y C;rcases hT.low y with z|⟨d,z,_⟩
   ·rw[z];cases j:φ.view id G y with
    |some l=>exact(s.jN j z).1
    |none=>
     rw[s.nX (by rw[hT.next];exact C) j (fun a m k=>by rw[z]at k;cases k)]
     exact z
   ·rw[z];exact ac y d z
  have S:Cut G t (T.kh t.next):=by
   refine⟨fun y=>?_,rfl,fun y D c1 c2 g z p u I=>?_⟩
   ·rw[af.sK];by_cases C:y<G
    ·grind
    ·exact .inr ⟨jW C,hT.top y (jW C)⟩
   ·rw[af.sK];rcases hT.low D with h|⟨d,h,_⟩
    ·exact h
    ·rw[ac D d h]at u;grind
  have Y:=s.rel.cut S;have K:=(s.ye (B:=G) (by rw[hT.next];exact aF _)).trans (s.rel.xj S (by have:=s.next;rw[hT.next]at this;exact this))
  have ap:=aL.dQ s.rel S a6 ba;generalize ψ.dQ t (T.kh t.next) Z=E at Y K ap
  have X:∀ {n:Nat},n<w.heap.size→(∀y l d,φ y=some l→l.c=n→T.get y≠ .cells d 0)→Z.heap[n]? =w.heap[n]? :=by
   intro n O bo;by_cases hb:∃m l,φ.view id G m=some l∧l.c=n
   ·obtain⟨m,l,j,rfl⟩:=hb;rcases hT.low m with h|⟨d,h,_⟩
    ·exact(s.jN j h).2
    grind [aG.nF]
   ·exact s.lY O (fun m l j k=>hb ⟨m,l,j,k⟩)
  have ad:∀ {y:Nat}{l:Loc},(∀d,T.get y≠ .cells d 0)→φ y=some l→∀D N d,φ D=some N→N.c=l.c→T.get D≠ .cells d 0:=by
   intro y l C e D N d e' a5 B;have a9:D≠y:=fun k=>C d (k▸B)
   rcases q.inj e' e a5 a9 with⟨_,_,g,z,p,_⟩|⟨p,_⟩
   ·rw[F D d B]at p;grind
   ·rw[F D d B]at p;cases p
  have al:∀n x,E.im n=some x→φ.im n=some x∨w.heap.size≤n∨∃m l d,φ m=some l∧E m=some l∧l.c=n∧T.get m=.cells d 0:=by
   intro n x e;rcases K.nk n x e with h|h|⟨m,l,p,u,I⟩
   ·exact .inl h
   ·exact .inr (.inl h)
   ·rcases hT.low m with h|⟨d,h,_⟩
    ·exact absurd h I
    ·exact .inr (.inr ⟨m,l,d,(aG.nF p).2,K.le (aG.nF p).1 p,u,h⟩)
  have W:φ.le ⟨φ.f,E.im⟩:=⟨fun _ _ e=>e,K.xA⟩;have am:∀ {x:V}{J:Value},bA x→aL E x J→aL ⟨φ.f,E.im⟩ x J:=fun h r=>aL.free (φ:=E) (ψ:=⟨φ.f,E.im⟩) (fun _ _ e=>e) h r
  have a':Rel ⟨φ.f,E.im⟩ H Z:=by
   refine⟨?_,fun j k=>s.same.free (q.room j k),q.len,q.inj,q.top,fun j=>eF (q.loc j) s.size,q.mem,q.mG,?_,?_,q.mJ⟩
   ·intro y l bi g i x j k a1 Q;have j:φ y=some l:=j;by_cases B:∃d,T.get y=.cells d 0
    ·obtain⟨d,B⟩:=B;rw[F y d B]at k;cases k;obtain⟨C,_,U⟩:=hT.cells B;obtain⟨J,L,M⟩:=Y.cell (K.le C (aG.th C j)) B rfl Q;exact⟨J,L,am (bX.iff.1 U _ (eN Q)) M⟩
    ·obtain⟨J,L,M⟩:=q.cell j k a1 Q;refine⟨J,?_,M.mono W⟩;unfold World.cell? at L⊢
     grind
   ·intro y l o j k;obtain⟨L,M⟩:=q.cl j k;refine⟨L,M.mono W (X (q.loc j) (ad (fun d h=>?_) j))⟩;rw[F y d h]at k;cases k
   ·intro n x e;have hi:=Y.fH e;refine⟨hi.obj,hi.kind,fun y l j k=>?_⟩;rcases al n x e with h|h|⟨m,N,d,p,u,I,h4⟩
    ·exact(q.fH h).off y l j k
    ·have:=q.loc j;omega
    ·have:=hi.off m N u I
     grind [af.sK]
  refine⟨v,v',H,⟨φ.f,E.im⟩,rfl,⟨a',W,fun p u=>absurd (p.symm.trans u) aE,fun _ _ _=>rfl,aF _,fun p u=>X p (fun y l d j k=>absurd k (u y l j)),s.size,s.same,fun{y l} j k=>⟨k,X (q.loc j) (ad (fun d h=>?_) j)⟩,fun n x e=>?_⟩,am U ap,hR,rfl⟩
  ·rw[F y d h]at k;cases k
  ·rcases al n x e with h|h|⟨m,l,d,p,u,I,h4⟩
   ·exact .inl h
   ·exact .inr (.inl h)
   ·exact .inr (.inr ⟨m,l,p,I,by rw[F m d h4];simp⟩)
end
mutual
inductive oh (b:Nat):V→V→Prop
 |any (v:V):oh b v .any
 |int (k:IntKind) (n:Int):oh b (.int k n) (.int k n)
 |bool (x:Bool):oh b (.bool x) (.bool x)
 |str (s:List UInt8):oh b (.str s) (.str s)
 |ak:oh b .ak .ak
 |slice (o n:Nat) (c:Cap):oh b (.slice b o n c) (.slice b o n c)
 |fj:oh b (.row 0 []) (.row 0 [])
 |aA {xs ys:List V} (h:wI b xs ys):oh b (.aA xs) (.aA ys)
 |agg {xs ys:List V} (h:wI b xs ys):oh b (.agg xs) (.agg ys)
inductive wI (b:Nat):List V→List V→Prop
 |nil:wI b [] []
 |cons {x y:V}{xs ys:List V} (h:oh b x y) (h':wI b xs ys):wI b (x::xs) (y::ys)
end
mutual
theorem aL.vM{φ ψ:aG}{b:Nat}(hb:∀l,φ b=some l→ψ b=some l):∀ {v v2:V}{v':Value},oh b v v2→aL φ v v'→aL ψ v2 v'
 |_,_,v',.any _,_=>.any v'
 |_,_,_,.int _ _,.int k n=>.int k n
 |_,_,_,.bool _,.bool x=>.bool x
 |_,_,_,.str _,.str s=>.str s
 |_,_,_,.ak,.ak=>.ak
 |_,_,_,.slice _ _ _,.slice h h1 h2=>.slice (hb _ h) h1 h2
 |_,_,_,.fj,.fj a c h=>.fj a c h
 |_,_,_,.fj,.row _ _ _ _=>.fj _ _ (fun h=>by cases h)
 |_,_,_,.aA h,.aA g=>.aA (bp.vM hb h g)
 |_,_,_,.agg h,.agg g=>.agg (bp.vM hb h g)
theorem bp.vM{φ ψ:aG}{b:Nat}(hb:∀l,φ b=some l→ψ b=some l):∀ {v v2:List V}{v':List Value},wI b v v2→bp φ v v'→bp ψ v2 v'
 |_,_,_,.nil,.nil=>.nil
 |_,_,_,.cons h h',.cons g g'=>.cons (aL.vM hb h g) (bp.vM hb h' g')
end
section
variable {P:Program}{G:Nat}
theorem AS(H:af):Cut 0 H (af.zero H.next):=⟨fun _=>.inr ⟨b4 _,af.e7 _ _⟩,rfl,fun _ _ _ _ _ _ _ _ _=>af.e7 _ _⟩
variable{A:FuncId}
theorem Kh{Z:List V}{R:V→Nat→List V→Prop}(ha:cD c (af.zero c.next) b Z)
 (hc:e4 P G (.fn A) Z (af.zero c.next) fun v1 B=>∃v f s,oh f v1 v∧c.next≤f∧f<B.next∧B.get f=.cells s 0∧(∀x∈s,∃k n,x=.int k n)∧R v f s):
 e4 P G (.fn A) b c fun v B=>∃f s,R v f s∧c.next≤f∧f<B.next∧∀y,B.get y=if y=f then .cells s 0 else c.get y:=by
 refine⟨hc.1,fun z w a0 q hg a5=>(hc.2 (z.dQ c (af.zero c.next) w) w a0 (q.cut (AS c)) hg (bp.dQ q (AS c) ha a5)).mono ?_⟩
 rintro e w' ⟨v1,v',B,Y,rfl,r,be,v,f,s,ba,ac,a6,ae,bd,hR⟩;have a9:=vr (H2:=af.zero c.next) q
 have W:c.next≤B.next:=r.next
 have bj:z f=none:=(q.top ac).1;have bb:∀ {y:Nat}{l:Loc},z y=some l→w'.heap[l.c]? =w.heap[l.c]? :=fun{y l} d=>(r.jN (show(z.dQ c (af.zero c.next) w) y=some l from d) (af.e7 _ _)).2
 have Q:∀ {l:Loc},Y f=some l→w.heap.size≤l.c:=by
  intro l d;rcases(r.fresh (show(z.dQ c (af.zero c.next) w) f=none from bj) d).2 with h|⟨b0,l0,j,C⟩
  ·exact h
  ·have b1:z b0=some l0:=j;have a':b0≠f:=fun e=>by grind
   rcases r.rel.inj (r.le _ _ j) d C a' with⟨_,_,g,_,E,_⟩|⟨_,E⟩
   ·grind
   grind
 let L:aG:=⟨fun y=>if y=f then Y f else z y,z.im⟩;let I:af:=⟨(c.set f (.cells s 0)).m,B.next⟩
 have S:∀y,I.get y=if y=f then .cells s 0 else c.get y:=by
  intro y;show(c.set f (.cells s 0)).get y=_;rw[af.aK];by_cases p:y=f
  ·grind
  ·grind
 have t:∀ {y:Nat},y≠f→I.get y=c.get y:=fun{y} h=>by rw[S,aj h]
 have al:I.get f=.cells s 0:=by rw[S,ao rfl]
 have D:L f=Y f:=ao rfl;have u:∀ {y:Nat},y≠f→L y=z y:=fun{y} h=>aj h
 have U:z.le L:=⟨fun y l e=>by
  grind,fun _ _ e=>e⟩
 have bc:Rel L I w':=by
  refine⟨?_,?_,?_,?_,?_,?_,?_,?_,?_,?_,?_⟩
  ·intro y l O g i x d j C H;by_cases p:y=f
   ·subst p;rw[al]at j;cases j;rw[D]at d;obtain⟨X,K,E⟩:=r.rel.cell d ae rfl H;obtain⟨k,n,rfl⟩:=bd x (eN H);refine⟨X,K,?_⟩;cases E;exact .int _ _
   ·rw[t p]at j;rw[u p]at d;have hl:c.fV y g=true:=by
     rcases gB.1 C with e|⟨a,F,b2,a1⟩
     ·exact gB.2 (.inl e)
     ·refine gB.2 (.inr ⟨a,F,?_,a1⟩)
      grind
    obtain⟨X,K,E⟩:=q.cell d j hl H;refine⟨X,?_,E.mono U⟩;unfold World.cell? at K⊢
    grind
  ·intro y l i d j;by_cases p:y=f
   ·subst p;rw[D]at d;exact r.rel.room d j
   ·rw[u p]at d;exact r.same.free (q.room d j)
  ·intro y l O g d j;by_cases p:y=f
   ·subst p;rw[al]at j;cases j;rw[D]at d;exact r.rel.len d ae
   ·rw[t p]at j;rw[u p]at d;exact q.len d j
  ·intro y y' l l' d j C H;by_cases p:y=f
   ·subst p;have J:y'≠y:=fun e=>H e.symm
    rw[D]at d;rw[u J]at j;have M:=Q d;have N:=q.loc j;omega
   ·by_cases J:y'=f
    ·subst J;rw[D]at j;rw[u p]at d;have M:=Q j;have N:=q.loc d;omega
    ·rw[t p,t J];rw[u p]at d;rw[u J]at j;exact q.inj d j C H
  ·intro y p;have bi:B.next≤y:=p
   have am:y≠f:=aa;rw[u am,t am];exact q.top (cH W bi)
  ·intro y l d;by_cases p:y=f
   ·subst p;rw[D]at d;exact r.rel.loc d
   ·rw[u p]at d;exact eF (q.loc d) r.size
  ·intro y O g bs a2 d j C;have p:y≠f:=fun h=>by
    grind
   have T:g≠f:=fun h=>by grind
   rw[t p]at d;rw[t T]at C;exact q.mem d j C
  ·intro g bs a2 d;have T:g≠f:=fun h=>by grind
   rw[t T]at d;exact q.mG d
  ·intro y l o d j;have p:y≠f:=fun h=>by grind
   rw[t p]at j;rw[u p]at d;obtain⟨K,E⟩:=q.cl d j;exact⟨K,E.mono U (bb d)⟩
  ·intro F x d;have hi:=q.fH (show z.im F=some x from d);have a8:=r.rel.fH (r.le.im F x (a9.im F x d));refine hi.keep (a8.obj.trans hi.obj.symm) fun y l j C=>?_
   by_cases p:y=f
   ·subst p;rw[D]at j;have M:=Q j;have N:=hi.lt;omega
   ·rw[u p]at j;rw[t p];exact hi.off y l j C
  ·intro y O g d;show g<B.next
   by_cases p:y=f
   ·grind
   ·rw[t p]at d;exact eF (q.mJ d) W
 refine⟨v,v',I,L,rfl,⟨bc,U,?_,?_,W,fun M N=>r.lY M N,r.size,r.same,?_,fun F x e=>.inl e⟩,aL.vM (fun l e=>by rw[D];exact e) ba be,f,s,hR,ac,a6,S⟩
 ·grind
 ·grind
 grind
theorem vb{u:List V}{R:V→Prop}(I:cD c (af.zero c.next) b u)
 (z:e4 P G (.fn A) u (af.zero c.next) fun C _=>∃v,(∀m,oh m C v)∧R v):
 e4 P G (.fn A) b c fun v k=>R v∧k=c:=by
 refine⟨z.1,fun j w E d K J=>(z.2 (j.dQ c (af.zero c.next) w) w E (d.cut (AS c)) K (bp.dQ d (AS c) I J)).mono ?_⟩
 rintro e D ⟨C,S,k,W,rfl,h,Q,v,N,H⟩;have M:=vr (H2:=af.zero c.next) d
 have B:∀ {y:Nat}{l:Loc},j y=some l→D.heap[l.c]? =w.heap[l.c]? :=fun{y l} a=>(h.jN (show(j.dQ c (af.zero c.next) w) y=some l from a) (af.e7 _ _)).2
 have O:Rel j c D:=by
  refine⟨?_,fun a f=>h.same.free (d.room a f),d.len,d.inj,d.top,fun a=>eF (d.loc a) h.size,d.mem,d.mG,?_,?_,d.mJ⟩
  ·intro m l U g i x a f p F;obtain⟨T,s,t⟩:=d.cell a f p F;refine⟨T,?_,t⟩;unfold World.cell? at s⊢
   grind
  ·intro m l o a f;obtain⟨s,t⟩:=d.cl a f;exact⟨s,t.mono (aG.le_refl j) (B a)⟩
  ·intro n x a;have hi:=d.fH a;have L:=h.rel.fH (h.le.im n x (M.im n x a));exact hi.keep (L.obj.trans hi.obj.symm) fun y l f p=>hi.off y l f p
 refine⟨v,S,c,j,rfl,⟨O,aG.le_refl j,fun q r=>absurd (q.symm.trans r) aE,fun _ _ _=>rfl,aF _,fun q r=>h.lY q r,h.size,h.same,fun a f=>⟨f,B a⟩,fun n x e=>.inl e⟩,aL.vM (b:=k.next) (fun l e=>by rw[(h.rel.top (aF _)).1]at e;cases e) (N k.next) Q,H,rfl⟩
end
def yG(ds:List TypeDesc)(a b:V):Option Bool:=match a with
 |.agg x=>(match b with|.agg y=>m9 ds x y|_=>aJ)
 |_=>aJ
def dB(ds:List TypeDesc)(z:V)(a:Bool)(x y:Fr→V):bQ:=.rd [x,y] (ue (yG ds) z a)
def dI(ds:List TypeDesc)(x y z:Fr→V):bQ:=.gK [x,y,z] (yl (yG ds))
def dH:bQ:=.gK [] Gl
def dM(x:Fr→V):bQ:=.gK [x] zP
def dK(x:Fr→V):bQ:=.mO x
def dz(x:Fr→V):bQ:=.rd [x] sC
section
variable {P:Program}{G:Nat}{d:Option Nat}{F:Fr}{H:af}{K:Fr→af→Prop}
@[go_sem↓]theorem as4(ds:List TypeDesc)(z:V)(a:Bool)(x y:Fr→V):dV P G (dB ds z a x y) d F H K=q_ d K F H (ue (yG ds) z a [x F,y F] H):=rfl
@[go_sem↓]theorem atb(ds:List TypeDesc)(x y z:Fr→V):dV P G (dI ds x y z) d F H K=gk d K F (yl (yG ds) [x F,y F,z F] H):=rfl
@[go_sem↓]theorem as9:dV P G dH d F H K=K (put F d (.map H.next)) (H.push (.cl (.map []))):=rfl
@[go_sem↓]theorem atk(x:Fr→V):dV P G (dM x) d F H K=gk d K F (zP [x F] H):=rfl
@[go_sem↓]theorem ath(x:Fr→V):dV P G (dK x) d F H K=As (x F) H fun v a=>K (put F d v) a:=rfl
@[go_sem↓]theorem asY(x:Fr→V):dV P G (dz x) d F H K=q_ d K F H (sC [x F] H):=rfl
end
theorem HV{R c:X→Fr→af→Prop}{b:Fr→af→Prop}(d:∀F H,e F H→b F H)(h:∀x F H,R x F H→c x F H):∀x F H,fD e R x F H→fD b c x F H:=by
 intro x F H a;cases x with
 |norm=>exact d _ _ a
 |ret=>exact h _ _ _ a
 |exit i=>exact h _ _ _ a
theorem wp_mono{P:Program}:∀(c:aP) {F:Fr}{H:af}{Q g:X→Fr→af→Prop},(∀x F H,Q x F H→g x F H)→wp P h c F H Q→wp P h c F H g
 |.skip,_,_,_,_,d,f=>d _ _ _ f
 |.ret,_,_,_,_,d,f=>d _ _ _ f
 |.exit _,_,_,_,_,d,f=>d _ _ _ f
 |.bP _,_,_,_,_,d,f=>gI.mono (fun F H=>d .norm F H) f
 |.seq a b,_,_,_,_,d,f=>wp_mono a (HV (fun _ _=>wp_mono b d) d) f
 |.cond x a b,F,H,Q,g,d,f=>by
  have f:r0 (x F) (wp P h a F H Q) (wp P h b F H Q):=f;show r0 (x F) (wp P h a F H g) (wp P h b F H g);unfold r0 at f⊢;split
  ·rename_i e;rw[e]at f;exact wp_mono a d f
  ·rename_i e;rw[e]at f;exact wp_mono b d f
  ·split at f
   ·contradiction
   ·contradiction
   ·exact f
 |.block id b,_,_,Q,g,d,f=>wp_mono b (fun x F H j=>by
  cases x with
  |norm=>exact d _ _ _ j
  |ret=>exact d _ _ _ j
  |exit i=>
   have j:if i=id then Q .norm F H else Q (.exit i) F H:=j
   show if i=id then g .norm F H else g (.exit i) F H
   grind) f
 |.loop b,_,_,_,_,d,⟨I,k,o,hi⟩=>⟨I,k,o,fun m F H s=>wp_mono b (HV (fun _ _ d=>d) d) (hi m F H s)⟩
 |.cut _ _ b,_,_,_,_,d,⟨l,n,p,q,r⟩=>⟨l,n,p,q,wp_mono b d r⟩
def qd(P:Program)(G:Nat)(b:aP)(R:X→Fr→af→Prop):Nat→Fr→af→Prop
 |0,_,_=>False
 |n+1,F,H=>jx P G b (fD (qd P G b R n) R) F H
variable{M:aP}
theorem qV{P:Program}{R:X→Fr→af→Prop}(n:Nat)(h:qd P a M R n m c):jx P a (.loop M) R m c:=by
 refine bK (qd P a M R) n h ?_;intro k e g b;cases k with
 |zero=>exact b.elim
 |succ k=>exact wp_mono M (HV (fun f i d=>⟨k,mq k,d⟩) (fun _ _ _ h=>h)) b
theorem kE{P:Program}{R:X→Fr→af→Prop}(n:Nat)(F:Fr)(H:af):qd P a M R (n+1) F H=jx P a M (fD (qd P a M R n) R) F H:=rfl
theorem N5{bytes:Nat}(h:a≤1073741824∧bytes≤1024):a≤1099511627776∧a*bytes≤1099511627776:=
 ⟨aa,cH (jX h.1 h.2) ag⟩
theorem aqn{s b n c:Nat}{k:IntKind}{h:Int}(a:0≤h∧h≤c):slice3 (j_ s) false true false [.slice b 0 n (.least c),.int k h]=some (.val (.slice b 0 h.toNat (.least c))):=by
 show z3 b 0 n c none (some (.int k h))=_;unfold z3;rw[sv (l:=0) (h:=h.toNat) rfl (mA k a.1) (b4 _) aa];rfl
theorem Tp{bytes n:Nat}{zs:List V}{k:IntKind}(h:1≤n∧n≤1073741824∧bytes≤1024):yJ bytes zs [.ak,.int k (n:Int)]=some (.new (rep zs n) (.least n)):=by
 show an (gy (.int k (n:Int))) (fun n=>aQ (and (bL 1 n) (i_ n bytes)) (some (aX.new (rep zs n) (.least n))))=_;rw[mA k aa,bH];show aQ (and (bL 1 n) (i_ n bytes)) _=_;rw[show bL 1 n=true from Nat.ble_eq_true_of_le h.1,pe (N5 h.2)];rfl
variable{L:Nat}
theorem Nw{bytes d:Nat}{xs ys rest:List V}(l:c.get h=.cells (xs++(ys++rest)) 0)(v:xs.length=u*a)(z:ys.length=L*a)(j:kn r=some L)(k:dX c a L r=some b)(y:b.length=L*a)(p:u+L≤d)(n:u+L≤1073741824∧bytes≤1024)(q:cK b=true)
 (o:e (put m i (.slice h 0 (u+L) (.least d))) (c.set h (.cells (xs++(b++rest)) 0))) (x:0<L):gk i e m (fA a bytes [.slice h 0 u (.least d),r] c):=by
 have t:c.e3 h (0+u*a) b=some (c.set h (.cells (xs++(b++rest)) 0)):=by
  unfold af.e3;rw[l];show aQ (cK b) (an (cz b (xs++(ys++rest)) (0+u*a)) fun f=>some (c.set h (.cells f 0)))=_;rw[q];have s:cz b (xs++(ys++rest)) (0+u*a)=some (xs++(b++rest)):=by
   rw[k8,ao (by grind)];congr 1;rw[eJ,←v,q4];have w:xs.length+b.length=(xs++ys).length:=by grind
   grind
  rw[s];rfl
 have g:fA a bytes [.slice h 0 u (.least d),r] c=some (.slice h 0 (u+L) (.least d),c.set h (.cells (xs++(b++rest)) 0)):=by
  show an (kn r) (fun L=>an (dX c a L r) fun b=>jJ a bytes (.slice h 0 u (.least d)) L b c)=_;rw[j];show an (dX c a L r) _=_;rw[k];show Bool.casesOn (motive:=fun _=>Option (V×af)) (fh L) (aQ (i_ (u+L) bytes) (aQ (bL (u+L) d) (an (c.e3 h (0+u*a) b) fun c=>some (V.slice h 0 (u+L) (.least d),c)))) (some (.slice h 0 u (.least d),c))=_;rw[qy aa,pe (N5 n),show bL (u+L) d=true from Nat.ble_eq_true_of_le p,t];rfl
 rw[g];exact o
mutual
inductive wJ:V→V→Prop
 |same (v:V):wJ v v
 |fL:wJ .ak (.row 0 [])
 |agg {xs ys:List V} (h:uX xs ys):wJ (.agg xs) (.agg ys)
 |aA {xs ys:List V} (h:uX xs ys):wJ (.aA xs) (.aA ys)
inductive uX:List V→List V→Prop
 |nil:uX [] []
 |cons {x y:V}{xs ys:List V} (h:wJ x y) (h':uX xs ys):uX (x::xs) (y::ys)
end
mutual
theorem aL.nz{φ:aG}:∀ {v v2:V}{v':Value},wJ v v2→aL φ v v'→aL φ v2 v'
 |_,_,_,.same _,r=>r
 |_,_,_,.fL,.ak=>.fj none 0 (fun _=>rfl)
 |_,_,_,.agg h,.agg g=>.agg (bp.nz h g)
 |_,_,_,.aA h,.aA g=>.aA (bp.nz h g)
theorem bp.nz{φ:aG}:∀ {v v2:List V}{v':List Value},uX v v2→bp φ v v'→bp φ v2 v'
 |_,_,_,.nil,.nil=>.nil
 |_,_,_,.cons h h',.cons g g'=>.cons (aL.nz h g) (bp.nz h' g')
end
variable{A:FuncId}{H:V→af→Prop}
theorem T5{P:Program}{d:List V}(g:uX b d)(e:e4 P a (.fn A) d c H):e4 P a (.fn A) b c H:=
 ⟨e.1,fun k w f j i h=>e.2 k w f j i (bp.nz g h)⟩
inductive tI (H:af) (args:List V):Nat→Prop
 |arg {b o n:Nat}{c:Cap} (h:V.slice b o n c∈args):tI H args b
 |cell {b b' o n:Nat}{c:Cap}{cs:List V} (h:tI H args b') (hb:H.get b'=.cells cs 0) (hm:V.slice b o n c∈cs):tI H args b
variable{p:aG}{q:World}{E:List Value}
theorem tI.named{P:Program}(j:Rel p c q)(f:bp p b E)(h:tI c b a):∃l,p a=some l:=by
 induction h with
 |arg d=>
  obtain⟨i,hi⟩:=List.getElem?_of_mem d;obtain⟨x,_,e⟩:=f.get i _ hi;cases e with
  |slice h _ _=>exact⟨_,h⟩
 |cell _ g d k=>
  obtain⟨l,hl⟩:=k;obtain⟨i,hi⟩:=List.getElem?_of_mem d;obtain⟨x,_,e⟩:=j.cell hl g (gB.2 (.inl rfl)) hi;cases e with
  |slice h _ _=>exact⟨_,h⟩
theorem T4{P:Program}{k:List V}{H:af}{Q:V→af→Prop}(bs:List Nat)(c:af)(D:∀m∈bs,(∃x,H.get m=.cells x 0)∧tI H b m)(h:∀y,c.get y=if y∈bs then .none else H.get y)(G:c.next=H.next)(C:cD H c b k)
 (r:e4 P a (.fn A) k c Q):e4 P a (.fn A) b H Q:=by
 refine⟨r.1,fun j w u d F q=>?_⟩;have i:Cut 0 H c:=by
  refine⟨fun y=>?_,G,fun y T L M g f p N O=>?_⟩
  ·grind
  ·grind
 have s:=d.xj i (b4 _);have E:Ext j H w (j.dQ H c w) c w:=by
  refine⟨s.rel,vr d,fun p h=>absurd (p.symm.trans h) aE,fun{y} _ f _=>?_,aa,fun _ _=>rfl,aF _,hU.refl w,fun{y R} n o=>⟨?_,rfl⟩,s.nk⟩
  ·rw[h,aj];intro I;obtain⟨l,hl⟩:=(D y I).2.named (P:=P) d q;rw[hl]at f;cases f
  ·grind
 refine(r.2 (j.dQ H c w) w u (d.cut i) F (bp.dQ d i C q)).mono ?_;rintro e S ⟨v,J,t,K,n,o,z,B⟩;exact⟨v,J,t,K,n,E.trans o,z,B⟩
def u8(n:Nat):UInt8:=g6 n
theorem H9(n:Nat):u8 (no_index (OfNat.ofNat n))=OfNat.ofNat n:=rfl
def Sh(v:V):V:=match v with
 |.str l=>.str (lmap (fun c=>u8 c.toNat) l)
 |v=>v
def er(x:Operand):Fr→V:=match x with
 |.tmp t=>rd t
 |.const v=>kc (Option.casesOn (motive:=fun _=>V) (mU 20 v) .undef Sh)
 |.global g=>kc (.ptr g 0)
 |.func f=>kc (.func f [] [])
variable{f:Type}
def lI(d:f)(x:Option f):f:=Option.casesOn (motive:=fun _=>f) x d (fun a=>a)
def yt(T:cc)(t:TypeId):List V:=lmap Sh (lI [] (zeroCells T t))
def pM(T:cc)(t:TypeId):Nat:=lI 0 (iV T t)
def zD(N:Nat→Option (List V→Option aX))(T:cc)(o:Op):bQ:=match o with
 |.move x=>mv (er x)
 |.assign x=>bN (er x)
 |.pick c a b=>pick (er c) (er a) (er b)
 |.alloc t=>alloc (yt T t)
 |.box _ x=>box (er x)
 |.build t parts=>(match T.bt t with
   |some (.struct j)=>cZ (lmap (fun p=>lI (0,0) (cO (lI [] (Bv T j.toList)) p.1)) parts.toList) (yt T t) (lmap (fun p=>er p.2) parts.toList)
   |some (.array _ e)=>cZ (lmap (fun p=>(p.1*pM T e,pM T e)) parts.toList) (yt T t) (lmap (fun p=>er p.2) parts.toList)
   |_=>.bad)
 |.buildSlice t n parts=>(match T.bt t with
   |some (.slice e)=>cQ n (lmap (fun p=>(p.1*pM T e,pM T e)) parts.toList) (yt T e) (lmap (fun p=>er p.2) parts.toList)
   |_=>.bad)
 |.load t a=>bq (lI false (T.isAgg t)) (pM T t) (er a)
 |.store t a v=>st (pM T t) (er a) (er v)
 |.nilCheck x=>dJ (er x)
 |.binOp h t x y _=>(match T.bt t with
   |some (.int _)=>bi h (er x) (er y)
   |some .string=>bs h (er x) (er y)
   |some (.struct _)=>ba (lI [] (T.x4 t)) (er x) (er y)
   |some d=>be (match h with|.neq=>true|_=>false) d (er x) (er y)
   |_=>.bad)
 |.unOp h _ x=>(match h with|.neg=>neg (er x)|.not=>not (er x)|_=>.bad)
 |.convert s d x=>(match T.bt s,T.bt d with
   |some (.int _),some (.int k)=>cw k (er x)
   |some .string,some (.slice _)=>dr (er x)
   |some (.slice _),some .string=>dw (er x)
   |_,_=>.bad)
 |.makeFunc (.func f) a b=>dG f (cn a.toList) (lmap er (cX a.toList b.toList))
 |.makeSlice t l c=>(match T.bt t with
   |some (.slice e)=>ms (lI 0 (an (T.info e) fun i=>some i.bytes)) (yt T e) (er l) (er c)
   |_=>.bad)
 |.slice t x lo hi m=>(match T.bt t with
   |some .string=>c9 lo.isSome hi.isSome m.isSome (lmap er (x::cX (j7 lo) (cX (j7 hi) (j7 m))))
   |some (.slice e)=>dO (pM T e) lo.isSome hi.isSome m.isSome (lmap er (x::cX (j7 lo) (cX (j7 hi) (j7 m))))
   |some (.array n e)=>dN n (pM T e) lo.isSome hi.isSome m.isSome (lmap er (x::cX (j7 lo) (cX (j7 hi) (j7 m))))
   |_=>.bad)
 |.fieldAddr s x f=>(match T.bt s with
   |some (.struct j)=>fa (lI 0 (an (cO j.toList f) fun f=>some f.offset)) (er x)
   |_=>.bad)
 |.indexAddr t x i=>(match T.bt t with
   |some (.slice e)=>b6 none (pM T e) (er x) (er i)
   |some (.array n e)=>b6 (some n) (pM T e) (er x) (er i)
   |_=>.bad)
 |.index _ x i=>cF (er x) (er i)
 |.extract t i=>ext i (er t)
 |.makeMap _ _=>dH
 |.lookup t x i u=>(match T.bt t with
   |some (.map q e)=>dB (lI [] (wO T q)) (lI .undef (an (T.info e) fun i=>an i.zero fun z=>mU 20 z)) u (er x) (er i)
   |_=>.bad)
 |.mapUpdate t m k v=>(match T.bt t with
   |some (.map q _)=>dI (lI [] (wO T q)) (er m) (er k) (er v)
   |_=>.bad)
 |.range _ x=>dM (er x)
 |.next x _=>dK (er x)
 |.entry x=>dz (er x)
 |.call c=>(match c.callee with
  |.value (.func f)=>(match N f with
   |some g=>dL g (lmap er c.args.toList)
   |_=>bY f (lmap er c.args.toList))
  |.value x=>dx (lmap er (x::c.args.toList))
  |.builtin b=>(match b,lmap (fun t=>T.bt t) c.argTypes.toList,lmap er c.args.toList with
   |.len,some .string::_,[x]=>dF x
   |.len,some (.map _ _)::_,[x]=>dD x
   |.len,_,[x]=>cY x
   |.cap,_,[x]=>dn x
   |.max,_,r=>mx r
   |.min,_,r=>mn r
   |.append,some (.slice e)::some (.int _)::_,[x,y]=>dm (lI 0 (an (T.info e) fun i=>some i.bytes)) (yt T e) x y
   |.append,some (.slice e)::_,[x,y]=>ap (lI 0 (an (T.info e) fun i=>some i.size)) (lI 0 (an (T.info e) fun i=>some i.bytes)) x y
   |.copy,some (.slice e)::_,[x,y]=>dy (pM T e) x y
   |_,_,_=>.bad)
  |_=>.bad)
 |_=>.bad
def O9(N:Nat→Option (List V→Option aX))(T:cc)(o:Op):Nat:=match o with
 |.assign _=>2|.store _ _ _=>2|.makeMap _ _=>2|.mapUpdate _ _ _ _=>2|.range _ _=>2|.next _ _=>2
 |.load _ _=>1|.lookup _ _ _ _=>1|.entry _=>1
 |.convert s _ _=>(match T.bt s with|some (.slice _)=>1|_=>0)
 |.call c=>(match c.callee with
  |.value (.func f)=>(match N f with|some _=>0|_=>2)
  |.value _=>2
  |.builtin b=>(match b,lmap (fun t=>T.bt t) c.argTypes.toList with
   |.len,some (.map _ _)::_=>1
   |.append,_::some (.int _)::_=>0
   |.append,_=>2
   |.copy,_=>2
   |_,_=>0)
  |_=>2)
 |_=>0
def ai_(N:Nat→Option (List V→Option aX))(T:cc)(b:List Oper):List Nat→Nat→List Info:=
 List.rec (motive:=fun _=>List Nat→Nat→List Info) (fun _ _=>[])
  (fun o _ a ms i=>⟨i,o,rI 0 ms 0,⟨fun _=>none,none,.bad⟩,bn (O9 N T o.op) 2⟩::a (ej ms 1) (Nat.succ i)) b
def aqL(N:Nat→Option (List V→Option aX))(T:cc)(l a:List Info)(r:List Info):Nat→List (Bool×Info):=
 List.rec (motive:=fun _=>Nat→List (Bool×Info)) (fun j=>lmap (fun i=>(false,i)) (mB l a j))
  (fun e _ b j=>cX (lmap (fun i=>(false,i)) (mB l a j)) ((false,e)::cX
    (lmap (fun i=>(true,i)) (kL (fun i=>and (!i.gN) (and (bn (O9 N T i.o.op) 1) (and (bL (nc a i.mask) j) (!(iS e.mask i.ix))))) l)) (b (Nat.succ j)))) r
def OL(N:Nat→Option (List V→Option aX))(T:cc)(a:List Oper)(r:Bool)(o:Oper):c6:=match r,o.guard,o.dst with
 |false,none,some d=>ex d (zD N T o.op)
 |false,none,none=>bF (zD N T o.op)
 |false,some (j,b),some d=>bC (lI 0 (tN a j)) b d (zD N T o.op)
 |true,none,some d=>re d (zD N T o.op)
 |true,some (j,b),some d=>rg (lI 0 (tN a j)) b d (zD N T o.op)
 |_,_,_=>bF .bad
def aol(N:Nat→Option (List V→Option aX))(T:cc)(a:List Oper)(c:Bool):List c6:=
 Bool.casesOn (motive:=fun _=>List c6) c (lmap (OL N T a false) a)
  (let l:=ai_ N T a (masks a []) 0
   let b:=kL (fun i=>i.gN) l
   lmap (fun p=>OL N T a p.1 p.2.o) (aqL N T l b b 0))
def anj(c:aP):Bool:=match c with|.skip=>false|.ret=>false|_=>true
def QT(a:Option (Nat→aP))(l:List aP)(b:aP):aP:=match a with|none=>b|some g=>g (cn l)
def Uh(N:Nat→Option (List V→Option aX))(T:cc)(d:Option (Nat→aP))(c:Code):Bool→List aP→aP×List aP:=
 Code.rec (motive:=fun _=>Bool→List aP→aP×List aP) (fun _ l=>(.skip,l)) (fun _ f e _ l=>(.bP (aol N T f.toList e),l))
  (fun _ _ a b s l=>let x:=a false l;let y:=b s x.2;Bool.casesOn (motive:=fun _=>aP×List aP) (and s (anj y.1)) (.seq x.1 y.1,y.2) (.seq x.1 (QT d y.2 y.1),cX y.2 [y.1]))
  (fun x _ _ a b _ l=>let y:=a false l;let z:=b false y.2;(.cond (er x) y.1 z.1,z.2)) (fun id _ b s l=>let x:=b s l;(.block id x.1,x.2))
  (fun _ b _ l=>let x:=b true l;(.loop (QT d x.2 x.1),cX x.2 [x.1])) (fun _ _ _ _ _ _ _ l=>(.skip,l)) (fun id _ l=>(.exit id,l)) (fun _ b s l=>b s l) (fun _ _ l=>(.skip,l)) (fun _ _ l=>(.skip,l)) (fun _ l=>(.ret,l)) (fun _ _ l=>(.skip,l)) c
end Go.au
namespace Go.Proofs.YtddhncjmaahodaaGreatDoor
section
open Go.au
def asz(f:Nat):Option (List V→Option aX):=Bool.casesOn (motive:=fun _=>Option (List V→Option aX)) (bn f 312) (Bool.casesOn (motive:=fun _=>Option (List V→Option aX)) (bn f 357) none (some dc)) (some c_)
def yK(a:Option (Nat→aP))(f:Option Code):aP×List aP:=Uh asz qj a (lI .ret f) true []
def mF(n:Nat):Option Code:=an (nK.get none n) fun f=>f.body
def v_(n:Nat):aP:=(yK none (mF n)).1
def pc(n i:Nat):aP:=rI .skip (yK none (mF n)).2 i
def n6(f:Func):List gH:=lmap (fun r=>match r with|.tmp t=>gH.tmp t|.cell a t=>.cell a (lI false (qj.isAgg t)) (pM qj t)) f.results.toList
attribute [irreducible] v_ pc
attribute [local irreducible] rd kc ex bF bC re rg mv bN pick alloc box bi bs be bq st fa b6 cF cZ cQ c9 dO dN ms cY dF dD dn mx mn dm ap dy cw dr dw bY dx ext dJ neg Go.au.not dG dB dI dH dM dK dz dL dc c_ u8
variable{M:aP}
theorem aU(n:Nat)(f:Func){a:aP}(_:(yK (some (pc n)) f.body).1=a:=by conv=>lhs;reduce)(_:a=M:=by(try simp only[Int.reduceOfNat,Int.reduceNegSucc,H9]);rfl)(h:v_ n=M:=by kernel_rfl):v_ n=M:=h
theorem ai(n:Nat)(f:Func)(i:Nat){a:aP}(_:rI .skip (yK (some (pc n)) f.body).2 i=a:=by conv=>lhs;reduce)(_:a=M:=by(try simp only[Int.reduceOfNat,Int.reduceNegSucc,H9]);rfl)(h:pc n i=M:=by kernel_rfl):pc n i=M:=h
theorem Ap(f:Func){a:List gH}(h:n6 f=a:=by conv=>lhs;reduce):n6 f=a:=h
theorem aR(c:Func)(f:Nat){l:List gH}(_:n6 c=l:=by conv=>lhs;reduce)(a:nK.get aJ f=some c:=by kernel_rfl)(b:sy 5 nK qj c=some (v_ f,l):=by kernel_rfl):yy c f (v_ f) l:=⟨a,b⟩
end
section
open Go.au Go.Proofs.Tryz
set_option maxRecDepth 100000
attribute [local irreducible] rd kc ex bF bC re rg mv bN pick alloc box bi bs ba be bq st fa b6 cF cZ cQ c9 dO dN ms cY dF dD dn mx mn dm ap dy cw dr dw bY dx ext dJ neg Go.au.not dG dB dI dH dM dK dz dL dc c_ u8
def afi:=ai 82 f82 0
def d82:=aU 82 f82
def alU:=aR f82 82
def afj:=ai 83 f83 0
def afk:=ai 83 f83 1
def afl:=ai 83 f83 2
def afm:=ai 83 f83 3
def afn:=ai 83 f83 4
def afo:=ai 83 f83 5
def d83:=aU 83 f83
def alV:=aR f83 83
def afp:=ai 84 f84 0
def afq:=ai 84 f84 1
def afr:=ai 84 f84 2
def MW:=ai 84 f84 3
def MX:=ai 84 f84 4
def MY:=ai 84 f84 5
def MZ:=ai 84 f84 6
def d84:=aU 84 f84
def alW:=aR f84 84
def afs:=ai 85 f85 0
def aft:=ai 85 f85 1
def d85:=aU 85 f85
def alX:=aR f85 85
def E9:=ai 86 f86 0
def d86:=aU 86 f86
def O4:=aR f86 86
def M0:=ai 87 f87 0
def M1:=ai 87 f87 1
def M3:=ai 87 f87 2
def M4:=ai 87 f87 3
def d87:=aU 87 f87
def O5:=aR f87 87
def E_:=ai 88 f88 0
def Fa:=ai 88 f88 1
def Fb:=ai 88 f88 2
def d88:=aU 88 f88
def alY:=aR f88 88
def afu:=ai 89 f89 0
def d89:=aU 89 f89
def alZ:=aR f89 89
def M5:=ai 90 f90 0
def M6:=ai 90 f90 1
def d90:=aU 90 f90
def al0:=aR f90 90
def afw:=ai 91 f91 0
def d91:=aU 91 f91
def al1:=aR f91 91
def Fe:=ai 96 f96 0
def Ff:=ai 96 f96 1
def d96:=aU 96 f96
def al3:=aR f96 96
def VL:=ai 118 f118 0
def VM:=ai 118 f118 1
def VN:=ai 118 f118 2
def VO:=ai 118 f118 3
def VP:=ai 118 f118 4
def VQ:=ai 118 f118 5
def VR:=ai 118 f118 6
def d118:=aU 118 f118
def aj1:=aR f118 118
def Wh:=ai 146 f146 0
def Wi:=ai 146 f146 1
def Wt:=ai 146 f146 2
def WE:=ai 146 f146 3
def WI:=ai 146 f146 4
def WJ:=ai 146 f146 5
def WK:=ai 146 f146 6
def WL:=ai 146 f146 7
def WM:=ai 146 f146 8
def WN:=ai 146 f146 9
def Wj:=ai 146 f146 10
def Wk:=ai 146 f146 11
def Wl:=ai 146 f146 12
def Wm:=ai 146 f146 13
def Wn:=ai 146 f146 14
def Wo:=ai 146 f146 15
def Wp:=ai 146 f146 16
def Wq:=ai 146 f146 17
def Wr:=ai 146 f146 18
def Ws:=ai 146 f146 19
def Wu:=ai 146 f146 20
def Wv:=ai 146 f146 21
def Ww:=ai 146 f146 22
def Wx:=ai 146 f146 23
def Wy:=ai 146 f146 24
def Wz:=ai 146 f146 25
def WA:=ai 146 f146 26
def WB:=ai 146 f146 27
def WC:=ai 146 f146 28
def WD:=ai 146 f146 29
def WG:=ai 146 f146 30
def WH:=ai 146 f146 31
def d146:=aU 146 f146
def aj7:=aR f146 146
def WO:=ai 147 f147 0
def WQ:=ai 147 f147 1
def WR:=ai 147 f147 2
def WS:=ai 147 f147 3
def WT:=ai 147 f147 4
def WU:=ai 147 f147 5
def WV:=ai 147 f147 6
def WW:=ai 147 f147 7
def WX:=ai 147 f147 8
def d147:=aU 147 f147
def aj8:=aR f147 147
def WY:=ai 148 f148 0
def WZ:=ai 148 f148 1
def W0:=ai 148 f148 2
def W1:=ai 148 f148 3
def W2:=ai 148 f148 4
def W3:=ai 148 f148 5
def d148:=aU 148 f148
def aj9:=aR f148 148
def W4:=ai 149 f149 0
def W5:=ai 149 f149 1
def W6:=ai 149 f149 2
def W7:=ai 149 f149 3
def W8:=ai 149 f149 4
def W9:=ai 149 f149 5
def W_:=ai 149 f149 6
def d149:=aU 149 f149
def aj_:=aR f149 149
def Xg:=ai 150 f150 0
def Xh:=ai 150 f150 1
def Xi:=ai 150 f150 2
def Xj:=ai 150 f150 3
def Xk:=ai 150 f150 4
def Xl:=ai 150 f150 5
def Xm:=ai 150 f150 6
def Xn:=ai 150 f150 7
def Xo:=ai 150 f150 8
def Xp:=ai 150 f150 9
def d150:=aU 150 f150
def aka:=aR f150 150
def Zn:=ai 219 f219 0
def Zo:=ai 219 f219 1
def Zp:=ai 219 f219 2
def Zq:=ai 219 f219 3
def Zr:=ai 219 f219 4
def Zs:=ai 219 f219 5
def d219:=aU 219 f219
def akF:=aR f219 219
def MF:=ai 36 f36 0
def MG:=ai 36 f36 1
def MH:=ai 36 f36 2
def d36:=aU 36 f36
def alu:=aR f36 36
end
end Go.Proofs.YtddhncjmaahodaaGreatDoor
namespace Go.aD
def val:List Nat→Nat
 |[]=>0
 |d::l=>d+4294967296*val l
def az(l:List Nat):Prop:=∀d∈l,d<4294967296
def aN(l:List Nat):Prop:=l.getLast?≠some 0
variable{a:Nat}{d:List Nat}
theorem az.cons(h:az (a::d)):a<4294967296∧az d:=⟨h a aE,fun x b=>h x (by simp[b])⟩
theorem az.mk(h:a<4294967296)(b:az d):az (a::d):=fun x hx=>by
 rcases jr.1 hx with rfl|hx
 ·exact h
 ·exact b x hx
theorem az.nil:az []:=fun _ h=>by cases h
theorem az.take(h:az d)(n:Nat):az (d.take n):=fun x a=>h x (uS a)
theorem az.drop(h:az d)(n:Nat):az (d.drop n):=fun x a=>h x (List.mem_of_mem_drop a)
theorem az.app{m:List Nat}(h:az d)(a:az m):az (d++m):=fun x hx=>by
 rcases hN.1 hx with hx|hx
 ·exact h x hx
 ·exact a x hx
theorem az.getD(h:az d)(i:Nat):d.getD i 0<4294967296:=by
 rw[cy];cases e:d[i]? with
 |none=>simp
 |some x=>exact h x (eN e)
theorem gY:∀ {l:List Nat},az l→val l<4294967296^l.length
 |[],_=>by simp[val]
 |d::l,h=>by
  have a:=gY h.cons.2;have b:=h.cons.1;simp only[val,cV,cS];omega
theorem fM:∀(l m:List Nat),val (l++m)=val l+4294967296^l.length*val m
 |[],m=>by simp[val]
 |d::l,m=>by
  simp only[eL,val,cV,cS,fM l m,cr];rw[b3 (4294967296^l.length) 4294967296,cI,mo]
theorem HL(h:a<d.length):d=d.take a++d.getD a 0::d.drop (a+1):=by
 simp_all
theorem qT{l:List Nat}{i:Nat}(h:i<l.length):val l=val (l.take i)+4294967296^i*(l.getD i 0+4294967296*val (l.drop (i+1))):=by
 have e:=congrArg val (HL h);rw[fM,g_ (hO h)]at e;exact e
variable{h:Nat}
theorem zk{a:List Nat}(e:az a)(hi:h<a.length)(f:h<d.length)(b:a.drop (h+1)=d.drop (h+1))(i:a.getD h 0<d.getD h 0):val a<val d:=by
 rw[qT hi,qT f,b];have c:=gY (e.take h);rw[g_ (hO hi)]at c;have g:4294967296^h*(a.getD h 0+4294967296*val (d.drop (h+1)))+4294967296^h≤4294967296^h*(d.getD h 0+4294967296*val (d.drop (h+1))):=by
  rw[←Nat.mul_succ];exact fE _ aa
 omega
theorem aN.pos(h:aN d)(a:d≠[]):4294967296^(d.length-1)≤val d:=by
 have hl:0<d.length:=List.length_pos_iff.2 a;have hi:d.length-1<d.length:=aa;rw[qT hi];have:d.getD (d.length-1) 0≠0:=by
  intro e;refine h ?_;rw[List.getLast?_eq_getElem?,cx hi];rw[cy,cx hi]at e;exact congrArg some e
 have b:4294967296^(d.length-1)*1≤4294967296^(d.length-1)*(d.getD (d.length-1) 0+4294967296*val (d.drop (d.length-1+1))):=fE _ aa;omega
theorem sU{a:List Nat}(b:az a)(c:aN d)(h:a.length<d.length):val a<val d:=by
 have e:=gY b;have f:=c.pos (by grind);have g:4294967296^a.length≤4294967296^(d.length-1):=gw aa aa;omega
theorem val_inj:∀ {a b:List Nat},az a→az b→a.length=b.length→val a=val b→a=b
 |[],[],_,_,_,_=>rfl
 |x::a,y::b,c,d,hl,h=>by
  have g:=c.cons.1;have i:=d.cons.1;simp only[val]at h;have e:x=y:=aa;have f:val a=val b:=aa;rw[e,val_inj c.cons.2 d.cons.2 (by simpa using hl) f]
theorem canon{a:List Nat}(b:az a)(c:az d)(e:aN a)(f:aN d)(h:val a=val d):a=d:=by
 rcases Nat.lt_trichotomy a.length d.length with h1|h1|h1
 ·have:=sU b f h1;omega
 ·grind [val_inj]
 ·have:=sU c e h1;omega
def trim:List Nat→List Nat
 |[]=>[]
 |d::l=>if trim l=[]∧d=0 then []else d::trim l
theorem yh(l:List Nat):trim (l++[0])=trim l:=by
 induction l with
 |nil=>rfl
 |cons d l a=>simp only[eL,trim,a]
theorem yf(l:List Nat)(d:Nat)(h:d≠0):trim (l++[d])=l++[d]:=by
 induction l with
 |nil=>simp[trim,h]
 |cons e l a=>simp only[eL,trim,a];simp
theorem yo:∀l,val (trim l)=val l
 |[]=>rfl
 |d::l=>by
  have a:=yo l;unfold trim;split
  ·rename_i h;rw[h.1]at a;simp only[val]at a⊢;omega
  ·simp only[val,a]
theorem yg:∀ {l:List Nat},az l→az (trim l)
 |[],h=>h
 |d::l,h=>by
  unfold trim;split
  ·exact az.nil
  ·exact .mk h.cons.1 (yg h.cons.2)
theorem Aa:∀l,aN (trim l)
 |[]=>by simp[trim,aN]
 |d::l=>by
  have a:=Aa l;unfold trim;split
  ·simp[aN]
  ·rename_i h;unfold aN at*;cases e:trim l with
   |nil=>
    rw[e]at h;simp at h;simpa using h
   |cons x m=>
    rw[e]at a;simpa using a
theorem R2:∀l,(trim l).length≤l.length
 |[]=>aF _
 |d::l=>by
  have:=R2 l;unfold trim;split
  ·simp
  ·simp;exact this
def aO(n:Nat):List Nat:=if h:n=0 then []else n%4294967296::aO (n/4294967296)
termination_by n
decreasing_by omega
theorem iZ:aO 0=[]:=by unfold aO;simp
theorem o5(h:a≠0):aO a=a%4294967296::aO (a/4294967296):=by rw[aO];simp[h]
theorem fQ(n:Nat):val (aO n)=n:=by
 induction n using jG with
 |ind n a=>
  by_cases h:n=0
  ·subst h;rw[iZ];rfl
  ·rw[o5 h];simp only[val,a (n/4294967296) aa];omega
theorem gW(n:Nat):az (aO n):=by
 induction n using jG with
 |ind n a=>
  by_cases h:n=0
  ·grind [iZ,az.nil]
  ·rw[o5 h];exact .mk aa (a _ aa)
theorem pT(n:Nat):aN (aO n):=by
 induction n using jG with
 |ind n a=>
  by_cases h:n=0
  ·subst h;rw[iZ];simp[aN]
  ·rw[o5 h];have:=a (n/4294967296) aa;unfold aN at*
   grind [o5]
theorem A7(h:az d)(t:aN d):aO (val d)=d:=canon (gW _) h (pT _) t (fQ _)
theorem pU(h:az d):trim d=aO (val d):=by
 grind [yo,A7,yg,Aa]
variable{u:Nat}
theorem vi(c:h<4294967296^u):(aO h).length≤u:=by
 by_cases e:aO h=[]
 ·grind
 ·have b:=(pT h).pos e;rw[fQ]at b;have d:(aO h).length-1<u:=(Nat.pow_lt_pow_iff_right (a:=4294967296) aa).1 aa;omega
end Go.aD
namespace Go.Proofs.YtddhncjmaahodaaGreatDoor
open Go.au Go.aD
def bx(l:List Nat):List V:=l.map fun d:Nat=>V.int .u32 (d:Int)
def mag(l:List Nat):V:=.row l.length (bx l)
theorem ia(l:List Nat):(bx l).length=l.length:=by simp[bx]
variable{d:List Nat}{a:Nat}
theorem hD(h:a<d.length):cO (bx d) a=some (.int .u32 ((d.getD a 0:Nat):Int)):=by
 rw[gO];simp[bx,h]
@[go_sem]theorem avM(l:List Nat):c3 (mag l)=some (.val (ah (l.length:Int))):=rfl
@[go_sem]theorem avo(l:List Nat):aZ (mag l)=true:=rfl
@[go_sem]theorem auI(l:List Nat):cellsOf (mag l)=[mag l]:=rfl
@[go_sem]theorem awe(l:List Nat):V.one (mag l)=true:=rfl
variable{s:Int}{o:IntKind}
theorem jB{l:List Nat}(h:0≤s∧s<l.length):eo none 1 [mag l,.int o s]=some (.val (.dh (bx l) s.toNat)):=by
 rw[mag,k7 h,ef]
theorem aqp(a:0≤s∧s≤d.length):slice3 (j_ 1) false true false [mag d,.int o s]=some (.val (mag (d.take s.toNat))):=by
 rw[mag,CE (by rw[ia,ef]) a];simp only[mag,bx,dP,ef,List.map_take];rw[(aa:min s.toNat d.length=s.toNat)]
theorem NM(l:List Nat):bX (bx l):=bX.iff.2 fun v h=>by
 simp only[bx,kT]at h;obtain⟨d,_,rfl⟩:=h;exact .int _ _
theorem j4(l:List Nat):bA (mag l):=.row _ (NM l)
theorem rU(l:List Nat)(hl:l.length<4294967296):aS 87 [mag l] (mag (trim l)):=by
 intro H;refine aT O5 ?_;simp only[d87,M4,M3];simp only[go_sem];refine bK (fun k F f=>∃m,rd 0 F=mag m∧trim m=trim l∧k=m.length∧m.length≤l.length∧f=H) l.length ⟨l,by simp only[go_sem],rfl,rfl,aF _,rfl⟩ ?_;rintro k F f ⟨m,b,c,rfl,j,rfl⟩;simp only[M1,M0];rcases List.eq_nil_or_concat m with rfl|⟨a,d,rfl⟩
 ·simp(disch:=omega)only[go_sem,b,kS,df];exact⟨by rw[←c];rfl,trivial⟩
 ·rw[List.concat_eq_append]at*;have e:(a++[d]).length=a.length+1:=aE;have i:(bx (a++[d])).length=a.length+1:=by rw[ia,e]
  have hi:(((a.length+1:Nat):Int)-1).toNat=a.length:=aa;have h:(a++[d]).getD a.length 0=d:=aE;by_cases g:d=0
  ·subst g;simp(disch:=omega)only[go_sem,b,e,dt,aI,jB,hi,hD,h,aqp];refine⟨a.length,aa,a,?_,(yh a).symm.trans c,rfl,aa,rfl⟩;simp only[go_sem];simp[]
  ·simp(disch:=omega)only[go_sem,b,e,dt,df,aI,jB,hi,hD,h];rw[←c,yf _ _ g];exact⟨rfl,trivial⟩
theorem amT(s:Bool)(n:Nat)(a:List V)(b:bX a):aS 86 [.bool s,.row n a] (.agg [.bool (s&&decide (0<n)),.row n a]):=by
 refine pI (R:=fun v=>v=_) (.cons (.bool _) (.cons (.row _ b) .nil)) (e4.mono (Q:=fun v _=>v=.agg [.bool (s&&decide (0<n)),.row n a]) (fun v c h=>⟨v,.same v,by rw[h];exact .agg (.cons (.bool _) (.cons (.row _ b) .nil)),h⟩) ?_);refine aT O4 ?_;simp only[d86,E9];cases s
 ·simp only[go_sem,Nat.reduceAdd,Bool.false_and]
 ·simp only[go_sem,Nat.reduceAdd,Bool.true_and];by_cases h:0<n
  ·simp(disch:=omega)only[dt]
  ·simp(disch:=omega)only[df]
def nO(a b:Nat):Int:=if a<b then-1 else if a=b then 0 else 1
theorem Ku(a b:List Nat)(q:az a)(r:az b)(u:aN a)(v:aN b)(x:a.length<4294967296)(y:b.length<4294967296):aS 148 [mag a,mag b] (ah (nO (val a) (val b))):=by
 intro H;refine aT aj9 ?_;simp only[d148,W3,W2,W1];rcases Nat.lt_trichotomy a.length b.length with h|h|h
 ·have c:=sU q v h;simp(disch:=omega)only[go_sem,Nat.reduceAdd,dt,df];simp[nO,c]
 ·simp(disch:=omega)only[go_sem,Nat.reduceAdd,dt,aI];refine bK (fun k F p=>∃j:Nat,rd 0 F=mag a∧rd 1 F=mag b∧rd 5 F=ah ((j:Int)-1)∧k=j∧j≤a.length∧a.drop j=b.drop j∧p=H) a.length ⟨a.length,?_,?_,?_,rfl,aF _,?_,rfl⟩ ?_
  iterate 3 simp only[go_sem]
  ·rw[jF (aF _),jF aa]
  rintro j F p ⟨_,d,e,f,rfl,w,g,rfl⟩;simp only[W0,WZ,WY];cases j with
  |zero=>
   have s:a=b:=by simpa using g
   simp(disch:=omega)only[go_sem,f,dt];rw[s];simp[nO]
  |succ i=>
   have hi:(((i+1:Nat):Int)-1).toNat=i:=aa;have l:i<a.length:=aa;have m:i<b.length:=aa;rcases Nat.lt_trichotomy (a.getD i 0) (b.getD i 0)with t|heq|hgt
   ·have c:=zk q l m g t;simp(disch:=omega)only[go_sem,d,e,f,dt,df,jB,hi,hD];simp[nO,c]
   ·simp(disch:=omega)only[go_sem,d,e,f,dt,df,jB,hi,hD,aI];refine⟨i,aa,i,?_,?_,?_,rfl,aa,?_,rfl⟩
    iterate 2 simp only[go_sem,d,e]
    ·simp only[go_sem];congr 1;omega
    ·rw[lz l,lz m,g];congr 1;simpa [cy,l,m]using heq
   ·have c:=zk r m l g.symm hgt;simp(disch:=omega)only[go_sem,d,e,f,df,jB,hi,hD];have n:¬val a<val b:=aa;have o:¬val a=val b:=aa;simp[nO,n,o]
 ·have c:=sU r u h;simp(disch:=omega)only[go_sem,Nat.reduceAdd,df];have n:¬val a<val b:=aa;have o:¬val a=val b:=aa;simp[nO,n,o]
theorem mD(l:List Nat)(i v:Nat):(bx l).set i (.int .u32 (v:Int))=bx (l.set i v):=by simp[bx,List.map_set]
theorem qM(n:Nat):rQ (n:Int) (ep 32 (gQ .u64))=((n/4294967296:Nat):Int):=rfl
theorem pC(n:Nat):(n:Int)%4294967296=((n%4294967296:Nat):Int):=aa
theorem Rk(ds:List Nat)(k v:Nat):(ds++aW (k+1) 0).set ds.length v=(ds++[v])++aW k 0:=by
 simp[qa]
theorem pX{l:List Nat}{i:Nat}(h:i<l.length):val (l.take (i+1))=val (l.take i)+4294967296^i*l.getD i 0:=by
 rw[kU h,fM,g_ (hO h),cy,cx h];simp[val]
theorem IW(x y:List Nat)(S:az x)(T:az y)(hl:y.length≤x.length)(Y:x.length<4294967295)(b:Nat)(F:Fr)(H:af)(R:X→Fr→af→Prop)(c:Cap)
 (A:rd 0 F=mag x) (B:rd 1 F=mag y) (C:rd 5 F=.slice b 0 (x.length+1) c) (D:rd 6 F=ay 0) (E:rd 7 F=ah 0) (L:H.get b=.cells (bx (aW (x.length+1) 0)) 0)
 (M:∀i n ds a,rd 0 i=mag x→rd 5 i=.slice b 0 (x.length+1) c→rd 6 i=ay ((a:Nat):Int)→a≤1→ds.length=x.length→az ds→val ds+4294967296^x.length*a=val x+val y→n.get b=.cells (bx (ds++[0])) 0→n.next=H.next→R (.exit 0) i n):
 bw (.loop (pc 147 2)) R F H:=by
 refine bK (fun k d f=>∃ds a,rd 0 d=mag x∧rd 1 d=mag y∧rd 5 d=.slice b 0 (x.length+1) c∧rd 6 d=ay ((a:Nat):Int)∧rd 7 d=ah ((ds.length:Nat):Int)∧a≤1∧k=x.length-ds.length∧ds.length≤x.length∧az ds∧
  val ds+4294967296^ds.length*a=val (x.take ds.length)+val (y.take ds.length)∧f.get b=.cells (bx (ds++aW (x.length-ds.length+1) 0)) 0∧f.next=H.next) x.length ⟨[],0,A,B,C,D,E,aa,rfl,b4 _,az.nil,rfl,L,rfl⟩ ?_
 rintro k d f ⟨ds,a,g,j,h,o,p,N,rfl,V,z,t,l,w⟩;simp only[WR,WQ,WO];by_cases hi:ds.length<x.length
 ·obtain⟨m,P⟩:∃m,x.length-ds.length=m+1:=⟨x.length-ds.length-1,aa⟩;have ab:=S.getD ds.length;have ac:=T.getD ds.length;have v:((ds.length:Nat):Int).toNat=ds.length:=aa;skip;rw[P]at l⊢;have W:(bx (ds++aW (m+1+1) 0)).length=ds.length+m+2:=by simp[ia];omega
  have u:∀(e:Fr) (s:Nat),s<4294967296*2→rd 0 e=mag x→rd 1 e=mag y→rd 5 e=.slice b 0 (x.length+1) c→rd 6 e=ay ((s/4294967296:Nat):Int)→rd 7 e=ah (((ds.length:Nat):Int)+1)→
   4294967296^ds.length*s+val ds=val (x.take (ds.length+1))+val (y.take (ds.length+1))→
   oS (fun k d f=>∃ds a,rd 0 d=mag x∧rd 1 d=mag y∧rd 5 d=.slice b 0 (x.length+1) c∧rd 6 d=ay ((a:Nat):Int)∧rd 7 d=ah ((ds.length:Nat):Int)∧a≤1∧k=x.length-ds.length∧ds.length≤x.length∧az ds∧
    val ds+4294967296^ds.length*a=val (x.take ds.length)+val (y.take ds.length)∧f.get b=.cells (bx (ds++aW (x.length-ds.length+1) 0)) 0∧f.next=H.next) (m+1) e (f.set b (.cells (bx ((ds++aW (m+1+1) 0).set ds.length (s%4294967296))) 0)):=by
   intro e s Z G I J K bh Q;refine⟨m,aa,ds++[s%4294967296],s/4294967296,G,I,J,K,?_,aa,?_,?_,z.app (.mk aa az.nil),?_,?_,w⟩
   ·rw[bh];simp
   ·simp;omega
   ·simp;omega
   ·rw[fM];simp only[aV,gP,cS,val,fy,cG];rw[←Q];have U:4294967296^ds.length*s=4294967296^ds.length*(s%4294967296)+4294967296^ds.length*4294967296*(s/4294967296):=by
     rw[cI,←cr,Nat.mod_add_div]
    omega
   ·rw[af.aK,ao rfl,Rk];have:x.length-(ds++[s%4294967296]).length+1=m+1:=by simp;omega
    rw[this]
  by_cases O:ds.length<y.length
  ·have r:((a:Nat):Int)+((x.getD ds.length 0:Nat):Int)+((y.getD ds.length 0:Nat):Int)=((a+x.getD ds.length 0+y.getD ds.length 0:Nat):Int):=aa;simp(disch:=omega)only[go_sem,g,j,h,o,p,dt,jB,bW,v,hD,bV,aI,r,qM,n_,pC,l,fo,mD];refine u _ (a+x.getD ds.length 0+y.getD ds.length 0) aa ?_ ?_ ?_ ?_ ?_ ?_
   iterate 5 simp only[go_sem,g,j,h]
   ·rw[pX hi,pX O,cr,cr];omega
  ·have r:((a:Nat):Int)+((x.getD ds.length 0:Nat):Int)=((a+x.getD ds.length 0:Nat):Int):=aa;simp(disch:=omega)only[go_sem,g,j,h,o,p,dt,df,jB,bW,v,hD,bV,aI,r,qM,n_,pC,l,fo,mD];refine u _ (a+x.getD ds.length 0) aa ?_ ?_ ?_ ?_ ?_ ?_
   iterate 5 simp only[go_sem,g,j,h]
   ·rw[b8 (aa:y.length≤ds.length)]at t;rw[pX hi,b8 (aa:y.length≤ds.length+1),cr];omega
 ·have q:ds.length=x.length:=aa;simp(disch:=omega)only[go_sem,g,p,df];refine M _ _ ds a ?_ ?_ ?_ N q z ?_ ?_ w
  iterate 3 simp only[go_sem,g,h,o]
  ·rw[q,b8 (aF _),b8 hl]at t;exact t
  ·rw[l,q];simp
theorem vT(n:Nat):rep [V.int .u32 0] n=bx (aW n 0):=by
 induction n with
 |zero=>rfl
 |succ n a=>
  show cX [V.int .u32 0] (rep [V.int .u32 0] n)=_;rw[iH,a];simp[bx,qa]
variable{c:af}{I:af}{h:Nat}
theorem rB{b:Cap}{l:List Nat}(e:c.get a=.cells (bx l) 0)(f:I.get a=.none)(g:l.length=h):bO c I (.slice a 0 h b) (mag l):=by
 subst g;cases l with
 |nil=>exact .fj a 0 b
 |cons d l=>
  refine .row (m:=(d::l).length) (cs:=bx (d::l)) ?_ (m7 _) f (cD.refl _);rw[fI e,dA,eZ,ao (by rw[ia];exact aF _),b8 (by rw[ia];exact aF _)]
theorem IU(a b:List Nat)(o:az a)(p:az b)(u:a.length<4294967295)(w:b.length<4294967295):aS 147 [mag a,mag b] (mag (aO (val a+val b))):=by
 refine pI (R:=fun v=>v=_) (.cons (j4 _) (.cons (j4 _) .nil)) (e4.mono (Q:=fun v _=>v=mag (aO (val a+val b))) (fun v y h=>⟨v,.same v,by rw[h];exact j4 _,h⟩) ?_);refine aT aj8 ?_;simp only[d147,WX,WW,WV,WU,WT,WS]
 have r:∀(x:List Nat) (F:Fr) (H:af) (ds:List Nat) (c gR:Nat),x.length<4294967295→c≤1→ds.length=x.length→az ds→val ds+4294967296^x.length*c=val a+val b→H.get gR=.cells (bx (ds++[0])) 0→rd 0 F=mag x→rd 5 F=.slice gR 0 (x.length+1) (.known (x.length+1))→rd 6 F=ay ((c:Nat):Int)→
  bw (.seq (.bP [ex 50 (mv (rd 5)),ex 51 (mv (rd 0)),ex 52 (cY (rd 51)),ex 53 (mv (rd 6)),ex 54 (cw .u32 (rd 53)),ex 55 (b6 none 1 (rd 50) (rd 52)),bF (st 1 (rd 55) (rd 54))])
   (.seq (.bP [ex 56 (mv (rd 5)),ex 57 (bY 87 [(rd 56)]),ex 4 (bN (rd 57))]) .ret)) (fu [.tmp 4] fun v _=>v=mag (aO (val a+val b))) F H:=by
  intro x F H ds c gR A k d j l i e f g;have z:(bx (ds++[0])).length=x.length+1:=by rw[ia];simp[d]
  have t:(ds++[0]).set x.length c=ds++[c]:=by rw[←d];simp
  simp(disch:=omega)only[go_sem,e,f,g,gL,bW,i,fo,mD,t];have s:(ds++[c]).length=x.length+1:=by simp[d]
  have q:(H.set gR (.cells (bx (ds++[c])) 0)).get gR=.cells (bx (ds++[c])) 0:=by rw[af.aK,ao rfl]
  refine jo (rU (ds++[c]) aa) q ⟨0,_,_,ec.2 rfl⟩ (.cons (rB q (by rw[af.aK,ao rfl]) s) .nil) ?_;simp only[go_sem];rw[pU (j.app (.mk aa az.nil)),fM,d,←l];simp[val]
 by_cases h:a.length<b.length
 ·simp(disch:=omega)only[go_sem,dt,aI,iI,vT];refine IW b a p o (hO h) aa 5 _ _ _ (.known (b.length+1)) ?_ ?_ ?_ ?_ ?_ ?_ ?_
  iterate 6 simp only[go_sem]
  ·intro m n ds c e f g k d j l i _;rw[fF];exact r b m n ds c 5 w k d j aa i e f g
 ·simp(disch:=omega)only[go_sem,df,aI,iI,vT];refine IW a b o p aa aa 5 _ _ _ (.known (a.length+1)) ?_ ?_ ?_ ?_ ?_ ?_ ?_
  iterate 6 simp only[go_sem]
  ·intro m n ds c e f g k d j l i _;rw[fF];exact r a m n ds c 5 u k d j l i e f g
theorem yL:nN (pN .u64) (eA .u64) a=(a:Int):=rfl
theorem ux(h:a<18446744073709551616):gX (eA .u64) (a:Int)=a:=kf h
theorem DD(h:a<18446744073709551616):hC (ic .and) [ay (a:Int),ay 1]=some (.val (ay ((a%2:Nat):Int))):=by
 show some (aX.val (ay (nN (pN .u64) (eA .u64) (Nat.land (gX (eA .u64) (a:Int)) (gX (eA .u64) 1)))))=_;rw[ux h,yL,show gX (eA .u64) 1=1 from rfl];exact congrArg (fun m:Nat=>some (aX.val (ay (m:Int)))) (Nat.and_one_is_mod a)
theorem aqV(x y:List Nat)(W:az x)(Y:az y)(hl:y.length≤x.length)(hs:x.length<4294967295)(b:Nat)(F:Fr)(H:af)(R:X→Fr→af→Prop)(c:Cap)
 (A:rd 0 F=mag x) (B:rd 1 F=mag y) (C:rd 5 F=.slice b 0 x.length c) (D:rd 6 F=ay 0) (E:rd 7 F=ah 0) (M:H.get b=.cells (bx (aW x.length 0)) 0)
 (N:∀r t ds a,rd 5 r=.slice b 0 x.length c→a≤1→ds.length=x.length→az ds→val x+4294967296^x.length*a=val ds+val y→t.get b=.cells (bx ds) 0→R (.exit 0) r t):
 bw (.loop (pc 149 2)) R F H:=by
 refine bK (fun k d f=>∃ds a,rd 0 d=mag x∧rd 1 d=mag y∧rd 5 d=.slice b 0 x.length c∧rd 6 d=ay ((a:Nat):Int)∧rd 7 d=ah ((ds.length:Nat):Int)∧a≤1∧k=x.length-ds.length∧ds.length≤x.length∧az ds∧
  val (x.take ds.length)+4294967296^ds.length*a=val ds+val (y.take ds.length)∧f.get b=.cells (bx (ds++aW (x.length-ds.length) 0)) 0) x.length ⟨[],0,A,B,C,D,E,aa,rfl,b4 _,az.nil,rfl,M⟩ ?_
 rintro k d f ⟨ds,a,g,i,h,u,o,O,rfl,hd,z,w,j⟩;simp only[W6,W5,W4];by_cases hi:ds.length<x.length
 ·obtain⟨m,S⟩:∃m,x.length-ds.length=m+1:=⟨x.length-ds.length-1,aa⟩;have ae:=W.getD ds.length;have Z:=Y.getD ds.length;rw[S]at j⊢;have ac:(bx (ds++aW (m+1) 0)).length=ds.length+m+1:=by simp[ia];omega
  have v:∀(e:Fr) (s n:Nat),s<18446744073709551616→n<4294967296→(x.getD ds.length 0+4294967296*(s/4294967296%2)=s%4294967296+a+n)→rd 0 e=mag x→rd 1 e=mag y→rd 5 e=.slice b 0 x.length c→rd 6 e=ay ((s/4294967296%2:Nat):Int)→rd 7 e=ah (((ds.length:Nat):Int)+1)→
   val (y.take (ds.length+1))=val (y.take ds.length)+4294967296^ds.length*n→
   oS (fun k d f=>∃ds a,rd 0 d=mag x∧rd 1 d=mag y∧rd 5 d=.slice b 0 x.length c∧rd 6 d=ay ((a:Nat):Int)∧rd 7 d=ah ((ds.length:Nat):Int)∧a≤1∧k=x.length-ds.length∧ds.length≤x.length∧az ds∧
    val (x.take ds.length)+4294967296^ds.length*a=val ds+val (y.take ds.length)∧f.get b=.cells (bx (ds++aW (x.length-ds.length) 0)) 0) (m+1) e (f.set b (.cells (bx ((ds++aW (m+1) 0).set ds.length (s%4294967296))) 0)):=by
   intro e s n l al P G I J K bh V;refine⟨m,aa,ds++[s%4294967296],s/4294967296%2,G,I,J,K,?_,aa,?_,?_,z.app (.mk aa az.nil),?_,?_⟩
   ·rw[bh];simp
   ·simp;omega
   ·simp;omega
   ·rw[fM];simp only[aV,gP,cS,val,fy,cG];rw[V,pX hi];have L:=congrArg (4294967296^ds.length* ·) P;simp only[cr,←cI]at L;omega
   ·rw[af.aK,ao rfl,Rk];have:x.length-(ds++[s%4294967296]).length=m:=by simp;omega
    rw[this]
  by_cases Q:ds.length<y.length
  ·obtain⟨s,U,l,q⟩:∃s:Nat,((((x.getD ds.length 0:Nat):Int)-(a:Int))%18446744073709551616-((y.getD ds.length 0:Nat):Int))%18446744073709551616=(s:Int)∧s<18446744073709551616∧x.getD ds.length 0+4294967296*(s/4294967296%2)=s%4294967296+a+y.getD ds.length 0:=by
    refine⟨((((x.getD ds.length 0:Nat):Int)-(a:Int)-((y.getD ds.length 0:Nat):Int))%18446744073709551616).toNat,?_,?_,?_⟩<;>omega
   simp(disch:=omega)only[go_sem,g,i,h,u,o,dt,jB,bW,hD,bV,hL,aI,U,qM,n_,pC,DD,j,fo,mD];refine v _ s (y.getD ds.length 0) l Z q ?_ ?_ ?_ ?_ ?_ (pX Q)
   iterate 5 simp only[go_sem,g,i,h]
  ·obtain⟨s,T,l,q⟩:∃s:Nat,(((x.getD ds.length 0:Nat):Int)-(a:Int))%18446744073709551616=(s:Int)∧s<18446744073709551616∧x.getD ds.length 0+4294967296*(s/4294967296%2)=s%4294967296+a+0:=by
    refine⟨((((x.getD ds.length 0:Nat):Int)-(a:Int))%18446744073709551616).toNat,?_,?_,?_⟩<;>omega
   simp(disch:=omega)only[go_sem,g,i,h,u,o,dt,df,jB,bW,hD,bV,hL,aI,T,qM,n_,pC,DD,j,fo,mD];refine v _ s 0 l aa q ?_ ?_ ?_ ?_ ?_ ?_
   iterate 5 simp only[go_sem,g,i,h]
   ·rw[b8 (aa:y.length≤ds.length),b8 (aa:y.length≤ds.length+1)];simp
 ·have p:ds.length=x.length:=aa;simp(disch:=omega)only[go_sem,g,o,df];refine N _ _ ds a ?_ O p z ?_ ?_
  ·simp only[go_sem,h]
  ·rw[p,b8 (aF _),b8 hl]at w;exact w
  ·rw[j,p];simp
theorem RR(a b:List Nat)(k:az a)(l:az b)(hl:b.length≤a.length)(s:val b≤val a)(m:a.length<4294967295):aS 149 [mag a,mag b] (mag (aO (val a-val b))):=by
 refine pI (R:=fun v=>v=_) (.cons (j4 _) (.cons (j4 _) .nil)) (e4.mono (Q:=fun v _=>v=mag (aO (val a-val b))) (fun v p h=>⟨v,.same v,by rw[h];exact j4 _,h⟩) ?_);refine aT aj_ ?_;simp only[d149,W_,W9,W8,W7];simp(disch:=omega)only[go_sem,iI,vT];refine aqV a b k l hl m 5 _ _ _ (.known a.length) ?_ ?_ ?_ ?_ ?_ ?_ ?_
 iterate 6 simp only[go_sem]
 ·intro n o ds c g q e f r d;simp only[go_sem,g];have j:=gY f;have i:c=0:=by
   rw[e]at j;rcases oe 0 c with h2|h2
   ·have:4294967296^a.length*1≤4294967296^a.length*c:=fE _ h2;omega
   ·omega
  subst i;refine jo (rU ds aa) d ⟨0,_,_,ec.2 rfl⟩ (.cons (rB d (by rw[af.aK,ao rfl]) e) .nil) ?_;simp only[go_sem];rw[pU f];congr 2;omega
theorem z0:((2^ep 32 (gQ .u64):Nat):Int)=4294967296:=rfl
theorem s8(a b:Nat):lO (a:Int) (b:Int)=((a/b:Nat):Int):=rfl
theorem yc(a b:Nat):mZ (a:Int) (b:Int)=((a%b:Nat):Int):=rfl
theorem zE(c:a<4294967296∧h<4294967296):hC (ic .or) [ay ((a:Int)*4294967296),ay (h:Int)]=some (.val (ay ((a*4294967296+h:Nat):Int))):=by
 have e:((a:Int)*4294967296)=((a*4294967296:Nat):Int):=aa;rw[e];show some (aX.val (ay (nN (pN .u64) (eA .u64) (Nat.lor (gX (eA .u64) ((a*4294967296:Nat):Int)) (gX (eA .u64) (h:Int))))))=_;rw[ux aa,ux aa,yL];refine congrArg (fun m:Nat=>some (aX.val (ay (m:Int)))) ?_;have b:=Nat.shiftLeft_add_eq_or_of_lt (i:=32) (show h<2^32 from c.2) a;rw[Nat.shiftLeft_eq]at b;exact b.symm
theorem agm(h:a<d.length):val (d.drop a)=d.getD a 0+4294967296*val (d.drop (a+1)):=by
 rw[lz h,cy,cx h];rfl
theorem HB(i v:Nat)(a:List Nat):(aW (i+1) 0++a).set i v=aW i 0++v::a:=by
 rw[List.replicate_succ',fl,List.set_append_right _ _ aE];simp
theorem RD(a:List Nat)(d:Nat)(z:az a)(f:0<d∧d<4294967296)(J:a.length<4294967295):aS 118 [mag a,.int .u32 (d:Int)] (.aA [mag (aO (val a/d)),.int .u32 ((val a%d:Nat):Int)]):=by
 refine pI (R:=fun v=>v=_) (.cons (j4 _) (.cons (.int _ _) .nil)) (e4.mono (Q:=fun v _=>v=.aA [mag (aO (val a/d)),.int .u32 ((val a%d:Nat):Int)]) (fun v g h=>⟨v,.same v,by rw[h];exact .aA (.cons (j4 _) (.cons (.int _ _) .nil)),h⟩) ?_);refine aT aj1 ?_;simp only[d118,VR,VQ,VP,VO];simp(disch:=omega)only[go_sem,iI,vT,aI];refine bK (fun k c g=>∃(j r:Nat) (b:List Nat),rd 0 c=mag a∧rd 1 c=.int .u32 (d:Int)∧rd 6 c=.slice 5 0 a.length (.known a.length)∧rd 7 c=ay (r:Int)∧rd 8 c=ah ((j:Int)-1)∧k=j∧j≤a.length∧az b∧b.length=a.length-j∧r<d∧val b*d+r=val (a.drop j)∧g.get 5=.cells (bx (aW j 0++b)) 0) a.length ⟨a.length,0,[],?_,?_,?_,?_,?_,rfl,aF _,az.nil,aE,f.1,by simp[val],?_⟩ ?_
 iterate 3 simp only[go_sem]
 ·simp only[go_sem];rfl
 ·simp only[go_sem]
 ·simp only[go_sem];simp
 rintro j c g ⟨_,r,b,p,s,l,t,u,rfl,F,y,hl,n,o,e⟩;simp only[VN,VM,VL];cases j with
 |zero=>
  simp(disch:=omega)only[go_sem,l,u,dt];have B:b.length=a.length:=aa;rw[qb,eE]at e;refine jo (rU b aa) e ⟨0,_,_,ec.2 rfl⟩ (.cons (rB e (by rw[af.aK,ao rfl]) B) .nil) ?_;simp(disch:=omega)only[go_sem,t,gL];rw[List.drop_zero]at o;rw[pU y,←o,b3 (val b) d,Nat.mul_add_mod,kf n,Nat.mul_add_div f.1,m3 n,cG]
 |succ i=>
  have A:i<a.length:=aa;have I:=z.getD i;have hi:(((i+1:Nat):Int)-1).toNat=i:=aa;have x:(r*4294967296+a.getD i 0)/d<4294967296:=by
   rw[q8 f.1];have:(r+1)*4294967296≤d*4294967296:=ee _ n;rw[b3 d]at this;omega
  have w:=eX (r*4294967296+a.getD i 0) f.1;have m:=jt (r*4294967296+a.getD i 0) d;generalize C:(r*4294967296+a.getD i 0)/d=q at x m
  generalize D:(r*4294967296+a.getD i 0)%d=E at w m
  have G:(bx (aW (i+1) 0++b)).length=a.length:=by rw[ia];simp;omega
  have H:((d:Nat):Int)≠0:=aa;simp(disch:=omega)only[go_sem,p,s,l,t,u,df,jB,bW,hi,hD,z0,bV,aI,zE,jK,mC,s8,yc,C,D,gL,e,fo,mD,HB];refine⟨i,aa,i,E,q::b,?_,?_,?_,?_,?_,rfl,aa,.mk x y,by simp;omega,w,?_,?_⟩
  iterate 4 simp only[go_sem,p,s,l]
  ·simp only[go_sem];congr 1;omega
  ·rw[agm A,←o];simp only[val];rw[b3 d]at m;rw[eu,cI,cr];omega
  ·rw[af.aK,ao rfl]
theorem qU:∀ {l:List Nat}{p v:Nat},p<l.length→val (l.set p v)+4294967296^p*l.getD p 0=val l+4294967296^p*v
 |[],_,_,h=>absurd h (m5 _)
 |d::l,0,v,_=>by simp[val];omega
 |d::l,p+1,v,h=>by
  have a:=qU (l:=l) (p:=p) (v:=v) (by simpa using h);have e:(d::l).getD (p+1) 0=l.getD p 0:=aE;rw[e];simp only[List.set_cons_succ,val,cS];rw[uW,uW _ _ v];omega
theorem pF(h:az d){p v:Nat}(b:v<4294967296):az (d.set p v):=fun x a=>by
 rcases List.mem_or_eq_of_mem_set a with a|rfl
 ·exact h x a
 ·exact b
theorem getD_set_ne{v:Nat}(b:a≠h):(d.set a v).getD h 0=d.getD h 0:=by
 simp[cy,b]
theorem B8(b:a<4294967296)(c:h<4294967296):a*h≤18446744065119617025:=by
 have:=jX (aa:a≤4294967295) (aa:h≤4294967295);omega
theorem ane(a b:List Nat)(S:az a)(T:az b)(i n j:Nat)(hi:i<a.length)(hn:n=a.length+b.length)(hs:n<4294967295)(c:Cap)(F:Fr)(H:af)(R:X→Fr→af→Prop)(g:List Nat)
 (E:rd 0 F=mag a) (G:rd 1 F=mag b) (I:rd 5 F=.slice 5 0 n c) (J:rd 6 F=ah (i:Int)) (K:rd 7 F=ay 0) (M:rd 8 F=ah 0) (N:H.get 5=.cells (bx g) 0) (O:g.length=n) (ar:az g) (ae:val g=j) (ap:∀p,i+b.length≤p→g.getD p 0=0)
 (P:∀f u L d,rd 0 f=mag a→rd 1 f=mag b→rd 5 f=.slice 5 0 n c→rd 6 f=ah (i:Int)→rd 7 f=ay ((d:Nat):Int)→d<4294967296→L.length=n→az L→(∀p,i+b.length≤p→L.getD p 0=0)→val L+4294967296^(i+b.length)*d=j+4294967296^i*(a.getD i 0*val b)→u.get 5=.cells (bx L) 0→R (.exit 2) f u):
 bw (.loop (pc 150 2)) R F H:=by
 refine bK (fun m e v=>∃(k d:Nat) (L:List Nat),rd 0 e=mag a∧rd 1 e=mag b∧rd 5 e=.slice 5 0 n c∧rd 6 e=ah (i:Int)∧rd 7 e=ay ((d:Nat):Int)∧rd 8 e=ah (k:Int)∧d<4294967296∧m=b.length-k∧k≤b.length∧L.length=n∧az L∧(∀p,i+b.length≤p→L.getD p 0=0)∧
  val L+4294967296^(i+k)*d=j+4294967296^i*(a.getD i 0*val (b.take k))∧v.get 5=.cells (bx L) 0) b.length ⟨0,0,g,E,G,I,J,K,M,aa,rfl,b4 _,O,ar,ap,by simp[val,ae],N⟩ ?_
 rintro m e v ⟨k,d,L,l,h,o,r,w,x,V,rfl,hk,hl,t,D,C,y⟩;simp only[Xi,Xh,Xg];by_cases Y:k<b.length
 ·have al:=S.getD i;have am:=T.getD k;have a4:=t.getD (i+k);have hp:=B8 al am;have a2:(bx L).length=n:=by rw[ia,hl]
  have W:((i:Int)+(k:Int)).toNat=i+k:=aa;have B:=qU (l:=L) (p:=i+k) (v:=(d+(a.getD i 0*b.getD k 0+L.getD (i+k) 0))%4294967296) aa;have A:((a.getD i 0:Nat):Int)*((b.getD k 0:Nat):Int)=((a.getD i 0*b.getD k 0:Nat):Int):=by rw[fY]
  have U:val (b.take (k+1))=val (b.take k)+4294967296^k*b.getD k 0:=pX Y;have z:4294967296^i*(a.getD i 0*(val (b.take k)+4294967296^k*b.getD k 0))=4294967296^i*(a.getD i 0*val (b.take k))+4294967296^(i+k)*(a.getD i 0*b.getD k 0):=by
   rw[cr,cr,gG,Nat.mul_left_comm (a.getD i 0),cI]
  generalize a.getD i 0*b.getD k 0=p at hp B A z
  have ad:(d:Int)+((p:Int)+((L.getD (i+k) 0:Nat):Int))=((d+(p+L.getD (i+k) 0):Nat):Int):=aa;simp(disch:=omega)only[go_sem,l,h,o,r,w,x,dt,jB,bW,W,hD,bV,aI,A,ad,qM,n_,pC,y,fo,mD];refine⟨b.length-(k+1),aa,k+1,(d+(p+L.getD (i+k) 0))/4294967296,L.set (i+k) ((d+(p+L.getD (i+k) 0))%4294967296),?_,?_,?_,?_,?_,?_,aa,rfl,aa,by rw[gE,hl],pF t aa,fun q hq=>by rw[getD_set_ne aa];exact D q hq,?_,?_⟩
  iterate 5 simp only[go_sem,l,h,o,r]
  ·simp only[go_sem];congr 1
  ·rw[U,z];generalize Q:d+(p+L.getD (i+k) 0)=s at B
   have h3:4294967296^(i+k)*s=4294967296^(i+k)*(s%4294967296)+4294967296^(i+(k+1))*(s/4294967296):=by
    rw[show i+(k+1)=i+k+1 from rfl,cS,cI,←cr,Nat.mod_add_div]
   have h4:4294967296^(i+k)*s=4294967296^(i+k)*d+(4294967296^(i+k)*p+4294967296^(i+k)*L.getD (i+k) 0):=by rw[←Q,cr,cr]
   omega
  ·rw[af.aK,ao rfl]
 ·have Z:k=b.length:=aa;subst Z;simp(disch:=omega)only[go_sem,h,x,df];rw[b8 (aF _)]at C;refine P _ _ L d ?_ ?_ ?_ ?_ ?_ V hl t D C y
  iterate 5 simp only[go_sem,l,h,o,r,w]
theorem P5(n:Nat):az (aW n 0):=fun x a=>by
 have:=List.eq_of_mem_replicate a;omega
theorem Si(n:Nat):val (aW n 0)=0:=by
 induction n with
 |zero=>rfl
 |succ n a=>simp[qa,val,a]
theorem PF(a b:List Nat)(E:az a)(F:az b)(J:a.length+b.length<4294967295):aS 150 [mag a,mag b] (mag (aO (val a*val b))):=by
 refine pI (R:=fun v=>v=_) (.cons (j4 _) (.cons (j4 _) .nil)) (e4.mono (Q:=fun v _=>v=mag (aO (val a*val b))∨(v=.ak∧aO (val a*val b)=[])) (fun v d h=>?_) ?_)
 ·rcases h with h|⟨h,C⟩
  ·exact⟨v,.same v,by rw[h];exact j4 _,h⟩
  ·refine⟨mag [],by rw[h];exact .fL,j4 _,by rw[C]⟩
 refine aT aka ?_;simp only[d150,Xp,Xo,Xn,Xm];by_cases O:a.length=0
 ·have x:a=[]:=oP O;simp(disch:=omega)only[go_sem,dt];refine .inr ⟨trivial,?_⟩;rw[x];simp[val,iZ]
 by_cases P:b.length=0
 ·have y:b=[]:=oP P;simp(disch:=omega)only[go_sem,dt,df];refine .inr ⟨trivial,?_⟩;rw[y];simp[val,iZ]
 have K:((a.length:Int)+(b.length:Int)).toNat=a.length+b.length:=aa;simp(disch:=omega)only[go_sem,df,aI,iI,vT,K]
 refine bK (fun m c d=>∃(i:Nat) (L:List Nat),rd 0 c=mag a∧rd 1 c=mag b∧rd 5 c=.slice 5 0 (a.length+b.length) (.known (a.length+b.length))∧rd 6 c=ah (i:Int)∧m=a.length-i∧i≤a.length∧L.length=a.length+b.length∧az L∧(∀p,i+b.length≤p→L.getD p 0=0)∧val L=val (a.take i)*val b∧d.get 5=.cells (bx L) 0) a.length
  ⟨0,aW (a.length+b.length) 0,?_,?_,?_,?_,rfl,b4 _,aE,P5 _,?_,?_,?_⟩ ?_
 iterate 3 simp only[go_sem]
 ·simp only[go_sem];rfl
 ·intro p _;simp only[cy,List.getElem?_replicate];split<;>rfl
 ·rw[Si];simp[val]
 ·simp only[go_sem]
 rintro m c d ⟨i,L,f,z,l,g,rfl,hi,hl,w,N,t,j⟩;simp only[Xl,Xk,Xj];by_cases q:i<a.length
 ·simp(disch:=omega)only[go_sem,f,g,dt];refine ane a b E F i (a.length+b.length) (val (a.take i)*val b) q rfl J (.known (a.length+b.length)) _ _ _ L ?_ ?_ ?_ ?_ ?_ ?_ j hl w t N ?_
  iterate 6 simp only[go_sem,f,z,l,g]
  intro R S e k A n o B bh G r Q u M D;have T:(bx e).length=a.length+b.length:=by rw[ia,r]
  have H:((i:Int)+(b.length:Int)).toNat=i+b.length:=aa;have s:=qU (l:=e) (p:=i+b.length) (v:=k) aa;rw[u _ (aF _),fy,cG]at s;simp(disch:=omega)only[go_sem,n,o,B,bh,bW,H,gL,aI,D,fo,mD];refine⟨a.length-(i+1),aa,i+1,e.set (i+b.length) k,?_,?_,?_,?_,rfl,aa,by rw[gE,r],pF Q G,fun p U=>by rw[getD_set_ne aa];exact u p aa,?_,?_⟩
  iterate 3 simp only[go_sem,A,n,o]
  ·simp only[go_sem];congr 1
  ·rw[s,M,pX q,eu,cI]
  ·rw[af.aK,ao rfl]
 ·have I:i=a.length:=aa;subst I;simp(disch:=omega)only[go_sem,f,l,g,df];refine jo (rU L aa) j ⟨0,_,_,ec.2 rfl⟩ (.cons (rB j (by rw[af.aK,ao rfl]) hl) .nil) ?_;simp only[go_sem];rw[pU w,t,b8 (aF _)];exact .inl rfl
def ei(z:Int):List V:=[.bool (decide (z<0)),mag (aO z.natAbs)]
def cq(z:Int):V:=.agg (ei z)
theorem ag'(z:Int):bX (ei z):=.cons (.bool _) (.cons (j4 _) .nil)
theorem jz(z:Int):bA (cq z):=.agg (ag' z)
def ey(n:Nat):Prop:=n<4294967296^1000000
theorem ey.len(h:ey a):(aO a).length≤1000000:=vi h
theorem sB(n:Nat):0<(aO n).length↔n≠0:=by
 constructor
 ·intro h e;rw[e,iZ]at h;exact absurd h (Nat.lt_irrefl _)
 ·intro h;rw[o5 h];exact m7 _
theorem BU{a:Nat}(b:a≤h):(aO a).length≤(aO h).length:=by
 by_cases e:aO h=[]
 ·have:=fQ h;rw[e]at this;have c:a=0:=by simp[val]at this;omega
  rw[c,iZ];exact b4 _
 ·refine vi (e_ b ?_);have:=gY (gW h);rwa[fQ]at this
theorem qE(s:Bool)(n:Nat):aS 86 [.bool s,mag (aO n)] (cq (if s then-(n:Int)else n)):=by
 have h:=amT s (aO n).length (bx (aO n)) (NM _);have e:V.agg [.bool (s&&decide (0<(aO n).length)),.row (aO n).length (bx (aO n))]=cq (if s then-(n:Int)else n):=by
  unfold cq ei mag;have a:(if s then-(n:Int)else n).natAbs=n:=by cases s<;>simp
  have b:decide ((if s then-(n:Int)else n)<0)=(s&&decide (0<(aO n).length)):=by
   cases s
   ·simp
   ·rw[Bool.true_and];refine decide_eq_decide.2 ?_;rw[sB];simp;omega
  rw[a,b]
 rw[←e];exact h
theorem Gv(z:Int):aS 82 [cq z] (cq (-z)):=by
 refine cM (.cons (jz _) .nil) (jz _) (aT alU ?_);simp only[go_sem,d82,afi,cq,ei];refine use (qE _ _) ?_;simp only[go_sem,cq,ei];have:(if(!decide (z<0))=true then-((z.natAbs:Nat):Int)else(z.natAbs:Int))= -z:=by
  by_cases h:z<0
  ·simp[h];omega
  ·simp[h];omega
 rw[this]
theorem Rx(z:Int):aS 96 [cq z] (ah (if z<0 then-1 else if z=0 then 0 else 1)):=by
 refine cM (.cons (jz _) .nil) (.int _ _) (aT al3 ?_);have hl:=sB z.natAbs;by_cases h:z<0
 ·simp(disch:=omega)only[go_sem,d96,Ff,Fe,cq,ei,dt];simp[h]
 ·by_cases a:z=0
  ·subst a;have b:(aO (0:Int).natAbs).length=0:=by rw[show(0:Int).natAbs=0 from rfl,iZ];rfl
   simp(disch:=omega)only[go_sem,d96,Ff,Fe,cq,ei,dt,df,b];simp
  ·have c:0<(aO z.natAbs).length:=hl.2 aa;simp(disch:=omega)only[go_sem,d96,Ff,Fe,cq,ei,df];simp[h,a]
theorem IT(x y:Int)(l:ey x.natAbs)(m:ey y.natAbs):aS 88 [cq x,cq y] (cq (x+y)):=by
 have q:=l.len;have r:=m.len;refine cM (.cons (jz _) (.cons (jz _) .nil)) (jz _) (aT alY ?_);have d:=IU (aO x.natAbs) (aO y.natAbs) (gW _) (gW _) aa aa;have c:=Ku (aO x.natAbs) (aO y.natAbs) (gW _) (gW _) (pT _) (pT _) aa aa;rw[fQ,fQ]at d c;have j:y.natAbs≤x.natAbs→aS 149 [mag (aO x.natAbs),mag (aO y.natAbs)] (mag (aO (x.natAbs-y.natAbs))):=fun h=>by
  have:=RR (aO x.natAbs) (aO y.natAbs) (gW _) (gW _) (BU h) (by rw[fQ,fQ];exact h) aa;rwa[fQ,fQ]at this
 have k:x.natAbs≤y.natAbs→aS 149 [mag (aO y.natAbs),mag (aO x.natAbs)] (mag (aO (y.natAbs-x.natAbs))):=fun h=>by
  have:=RR (aO y.natAbs) (aO x.natAbs) (gW _) (gW _) (BU h) (by rw[fQ,fQ];exact h) aa;rwa[fQ,fQ]at this
 have n:∀s:Bool,decide (x<0)=s→decide (y<0)=s→(if s then-((x.natAbs+y.natAbs:Nat):Int)else((x.natAbs+y.natAbs:Nat):Int))=x+y:=by
  intro s a b;cases s
  ·simp at a b⊢;omega
  ·simp at a b⊢;omega
 by_cases h:decide (x<0)=decide (y<0)
 ·generalize g:decide (x<0)=s at h
  have e:=n s g h.symm;simp only[go_sem,d88,Fb,Fa,E_,cq,ei,g,←h,beq_self_eq_true];refine use d ?_;simp only[go_sem,true_and];refine use (qE _ _) ?_;simp only[go_sem,cq,ei];rw[e]
 ·have f:(decide (x<0)==decide (y<0))=false:=by simpa using h
  by_cases i:y.natAbs≤x.natAbs
  ·have o:¬nO x.natAbs y.natAbs<0:=by
    unfold nO;split
    ·omega
    ·split<;>omega
   simp(disch:=omega)only[go_sem,d88,Fb,Fa,E_,cq,ei,f];refine use c ?_;simp(disch:=assumption)only[go_sem,df];refine use (j i) ?_;simp only[go_sem,true_and];refine use (qE _ _) ?_;simp only[go_sem,cq,ei];have e:(if decide (x<0)=true then-((x.natAbs-y.natAbs:Nat):Int)else((x.natAbs-y.natAbs:Nat):Int))=x+y:=by
    by_cases a:x<0<;>by_cases b:y<0<;>simp[a,b]at h⊢ <;>omega
   rw[e]
  ·have p:nO x.natAbs y.natAbs<0:=by
    unfold nO;rw[ao aa];decide
   simp(disch:=omega)only[go_sem,d88,Fb,Fa,E_,cq,ei,f];refine use c ?_;simp(disch:=assumption)only[go_sem,dt];refine use (k aa) ?_;simp only[go_sem,true_and];refine use (qE _ _) ?_;simp only[go_sem,cq,ei];have e:(if decide (y<0)=true then-((y.natAbs-x.natAbs:Nat):Int)else((y.natAbs-x.natAbs:Nat):Int))=x+y:=by
    by_cases a:x<0<;>by_cases b:y<0<;>simp[a,b]at h⊢ <;>omega
   rw[e]
theorem xH(x y:Int)(d:ey x.natAbs)(f:ey y.natAbs):aS 89 [cq x,cq y] (cq (x*y)):=by
 have g:=d.len;have h:=f.len;refine cM (.cons (jz _) (.cons (jz _) .nil)) (jz _) (aT alZ ?_);have a:=PF (aO x.natAbs) (aO y.natAbs) (gW _) (gW _) aa;rw[fQ,fQ]at a;simp only[go_sem,d89,afu,cq,ei];refine use a ?_;simp only[go_sem,true_and];refine use (qE _ _) ?_;simp only[go_sem,cq,ei];have e:(if(!(decide (x<0)==decide (y<0)))=true then-((x.natAbs*y.natAbs:Nat):Int)else((x.natAbs*y.natAbs:Nat):Int))=x*y:=by
  rw[fY];by_cases b:x<0<;>by_cases c:y<0<;>simp only[b,c,decide_true,decide_false,JI,JH,JG,JF,Gy,nf,↓reduceIte,iM]
  ·rw[(aa:((x.natAbs:Nat):Int)= -x),(aa:((y.natAbs:Nat):Int)= -y),Int.neg_mul_neg]
  ·rw[(aa:((x.natAbs:Nat):Int)= -x),(aa:((y.natAbs:Nat):Int)=y),Int.neg_mul,Int.neg_neg]
  ·rw[(aa:((x.natAbs:Nat):Int)=x),(aa:((y.natAbs:Nat):Int)= -y),Int.mul_neg,Int.neg_neg]
  ·rw[(aa:((x.natAbs:Nat):Int)=x),(aa:((y.natAbs:Nat):Int)=y)]
 rw[e]
theorem ars(h:a<18446744073709551616):trim [a%4294967296,a/4294967296%4294967296]=aO a:=by
 rw[pU (.mk aa (.mk aa az.nil))];congr 1;simp[val];omega
theorem tV(n:Int)(h: -9223372036854775808≤n∧n<9223372036854775808):aS 36 [ah n] (cq n):=by
 refine cM (.cons (.int _ _) .nil) (jz _) (aT alu ?_)
 have key:∀(s:Bool) (k:Nat) (F:Fr) (H:af),k<18446744073709551616→(if s then-(k:Int)else k)=n→rd 11 F=.bool s→rd 2 F=.ptr 5 0→H.get 5=.cells [aC,.ak] 0→H.get 6=.cells (bx [k%4294967296,k/4294967296%4294967296]) 0→
  oM eO 5 (some 18) (jY eO 5 [ex 19 (bY 86 [(rd 11),(rd 18)]),bF (st 2 (rd 2) (rd 19))] (fD (bw .ret (fu [.cell 2 true 2] fun v _=>v=cq n)) (fu [.cell 2 true 2] fun v _=>v=cq n) .norm)) F H (some (.fn 87,[.slice 6 0 2 (.known 2)])):=by
  intro s k F H f e b c d a;refine jo (args2:=[mag [k%4294967296,k/4294967296%4294967296]]) (rU _ aE) a ⟨0,_,_,ec.2 rfl⟩ (.cons (rB a (by rw[af.aK,ao rfl]) rfl) .nil) ?_;rw[ars f];simp only[go_sem,b];refine use (qE _ _) ?_;simp only[go_sem,cq,ei,c,d];rw[e]
 by_cases i:n<0
 ·obtain⟨k,rfl⟩:∃k:Nat,n= -(k:Int):=⟨n.natAbs,aa⟩;have g:aB .u64 (-(aB .u64 (-(k:Int))))=(k:Int):=by rw[hL,hL];omega
  simp(disch:=omega)only[go_sem,d36,MH,MG,MF,dt,g,n_,pC,qM];refine key true k _ _ aa rfl ?_ ?_ ?_ ?_
  all_goals simp only[go_sem]
  rfl
 ·obtain⟨k,rfl⟩:∃k:Nat,n=(k:Int):=⟨n.natAbs,aa⟩;simp(disch:=omega)only[go_sem,d36,MH,MG,MF,df,bV,n_,pC,qM];refine key false k _ _ aa rfl ?_ ?_ ?_ ?_
  all_goals simp only[go_sem]
  rfl
def gR(t:Nat):Nat:=if h:t=0 then 0 else 1+gR (t/2)
termination_by t
decreasing_by omega
theorem yM:gR 0=0:=by rw[gR];simp
theorem u7(h:a≠0):gR a=1+gR (a/2):=by rw[gR];simp[h]
theorem TE{t:Nat}(k:Nat)(h:t<2^k):gR t≤k:=by
 induction k generalizing t with
 |zero=>have:t=0:=by simpa using h
        rw[this,yM];exact aF _
 |succ k a=>
  by_cases e:t=0
  ·rw[e,yM];exact b4 _
  ·rw[u7 e];have:=a (t:=t/2) (by rw[cS]at h;omega);omega
theorem JN:gR a=1↔a=1:=by
 constructor
 ·intro h;by_cases e:a=0
  ·rw[e,yM]at h;cases h
  ·rw[u7 e]at h;by_cases b:a/2=0
   ·omega
   ·rw[u7 b]at h;omega
 ·intro h;rw[h,u7 aa];rw[show 1/2=0 from rfl,yM]
def pD(n:Nat):Nat:=if n=0 then 0 else 32*((aO n).length-1)+gR ((aO n).getD ((aO n).length-1) 0)
theorem H6(h:a≠0):(aO a).getD ((aO a).length-1) 0≠0:=by
 have hl:=(sB a).2 h;have hi:(aO a).length-1<(aO a).length:=aa;intro e;refine pT a ?_;rw[List.getLast?_eq_getElem?,cx hi];rw[cy,cx hi]at e;exact congrArg some e
theorem PM{n:Nat}:pD n=1↔n=1:=by
 unfold pD;by_cases h:n=0
 ·simp[h]
 ·rw[aj h];have f:=H6 h;have hl:=(sB n).2 h;constructor
  ·intro e;have g:gR ((aO n).getD ((aO n).length-1) 0)≠0:=by rw[u7 f];omega
   have b:(aO n).length-1=0:=aa;rw[b]at e;have c:=JN.1 (aa:gR ((aO n).getD 0 0)=1);have d:=fQ n
   match a:aO n with
   |[]=>rw[a]at hl;exact absurd hl (Nat.lt_irrefl _)
   |[x]=>rw[a]at d c;simp[val]at d c;omega
   |_::_::_=>rw[a]at b;simp at b
  ·intro e;subst e;have a:aO 1=[1]:=by rw[o5 aa];simp[iZ]
   rw[a];simp[JN.2 rfl]
theorem ano{n:Nat}:pD n=0↔n=0:=by
 unfold pD;by_cases h:n=0
 ·simp[h]
 ·rw[aj h];have a:gR ((aO n).getD ((aO n).length-1) 0)≠0:=by rw[u7 (H6 h)];omega
  omega
theorem ap'(n:Nat):rQ (n:Int) (ep 1 (gQ .u32))=((n/2:Nat):Int):=rfl
theorem JL(z:Int)(o:ey z.natAbs):aS 84 [cq z] (ah (pD z.natAbs:Int)):=by
 have hl:=o.len;refine cM (.cons (jz _) .nil) (.int _ _) (aT alW ?_);by_cases a:z.natAbs=0
 ·have i:(aO z.natAbs).length=0:=by rw[a,iZ];rfl
  simp(disch:=omega)only[go_sem,d84,MZ,MY,MX,MW,cq,ei,dt];rw[pD,ao a];rfl
 ·have i:=(sB z.natAbs).2 a;have hi:(((aO z.natAbs).length:Int)-1).toNat=(aO z.natAbs).length-1:=aa;have n:=(gW z.natAbs).getD ((aO z.natAbs).length-1);have j:=TE 32 n;simp(disch:=omega)only[go_sem,d84,MZ,MY,MX,MW,cq,ei,df,aI,jB,hi,hD];have l:pD z.natAbs=32*((aO z.natAbs).length-1)+gR ((aO z.natAbs).getD ((aO z.natAbs).length-1) 0):=by rw[pD,aj a]
  refine bK (fun k b h=>∃t m:Nat,rd 4 b=.int .u32 (t:Int)∧rd 3 b=ah (m:Int)∧m+gR t=pD z.natAbs∧gR t≤32∧k=t) ((aO z.natAbs).getD ((aO z.natAbs).length-1) 0) ⟨_,32*((aO z.natAbs).length-1),?_,?_,l.symm,j,rfl⟩ ?_
  ·simp only[go_sem]
  ·simp only[go_sem];congr 1;omega
  rintro t b h ⟨_,m,d,c,f,p,rfl⟩;simp only[afr,afq,afp];have q:pD z.natAbs≤32000032:=aa;by_cases g:t=0
  ·subst g;simp(disch:=omega)only[go_sem,c,d,df];rw[yM]at f;rw[←f];rfl
  ·have e:=u7 g;simp(disch:=omega)only[go_sem,c,d,dt,aI,ap'];refine⟨t/2,aa,t/2,m+1,?_,?_,aa,aa,rfl⟩
   ·simp only[go_sem]
   ·simp only[go_sem];congr 1
end Go.Proofs.YtddhncjmaahodaaGreatDoor
namespace Go.aD
section
variable {q top u2 mg v1 v2 nG W U V:Nat}
theorem ze(c:V=(v1*4294967296+v2)*W+nG)(b:U=(top*4294967296+u2)*W+mg)(g:mg<W)(f:q*V≤U):q*(v1*4294967296+v2)≤top*4294967296+u2:=by
 obtain⟨X,d⟩:∃X,X=v1*4294967296+v2:=⟨_,rfl⟩;obtain⟨T,hT⟩:∃T,T=top*4294967296+u2:=⟨_,rfl⟩;rw[←d]at c⊢;rw[←hT]at b⊢;have e:q*X*W≤q*V:=by
  rw[cI];exact fE _ aa
 have a:q*X*W<(T+1)*W:=by
  rw[eu,iP];omega
 have:=tE a;omega
theorem BP(b:V=(v1*4294967296+v2)*W+nG)(a:U=(top*4294967296+u2)*W+mg)(d:mg<W)(f:u2<4294967296)(e:0<v1)(c:q*V≤U):q≤top/v1:=by
 have h:=ze b a d c;rw[cr,←cI]at h;rw[tD e];omega
theorem BQ{h r:Nat}(b:V=(v1*4294967296+v2)*W+nG)(a:U=(top*4294967296+u2)*W+mg)(d:mg<W)(c:q*V≤U)(i:top=h*v1+r)(g:r*4294967296+u2<h*v2):q<h:=by
 rcases oe q h with h1|h1
 ·exact h1
 ·have e:=ze b a d c;have f:h*(v1*4294967296+v2)≤q*(v1*4294967296+v2):=ee _ h1
  grind
variable{a:Nat}{h:Nat}
theorem BR(d:V=(v1*4294967296+v2)*W+nG)(c:U=(top*4294967296+u2)*W+mg)(l:nG<W)(p:0<v1)(k:top=a*v1+h)(hh:a<4294967296)(o:a*v2≤h*4294967296+u2):(a-1)*V≤U:=by
 cases a with
 |zero=>simp
 |succ g=>
  have m:top*4294967296=(g+1)*v1*4294967296+h*4294967296:=by rw[k,eu]
  have b:(g+1)*(v1*4294967296+v2)≤top*4294967296+u2:=by
   rw[cr,←cI];omega
  have j:4294967296≤v1*4294967296+v2:=aa;obtain⟨X,f⟩:∃X,X=v1*4294967296+v2:=⟨_,rfl⟩;obtain⟨T,e⟩:∃T,T=top*4294967296+u2:=⟨_,rfl⟩;rw[←f]at d b j;rw[←e]at c b;have i:(g+1)*X*W≤T*W:=ee _ b;rw[eu g 1 X,iP,eu]at i;have n:g*nG≤X*W:=jX aa (hO l);show g*V≤U;rw[d,c,cr,←cI];omega
end
end Go.aD
namespace Go.Proofs.YtddhncjmaahodaaGreatDoor
open Go.au Go.aD
variable{h:Nat}
theorem ld{a:Nat}(b:a≤h):ep a h=a:=by
 unfold ep;rw[ki b]
variable{a:Nat}
theorem Qb{y:Nat}(h:a<4294967296∧y<4294967296):hC (ic .or) [.int .u32 (a:Int),.int .u32 (y:Int)]=some (.val (.int .u32 ((a|||y:Nat):Int))):=by
 show some (aX.val (.int .u32 (nN (pN .u32) (eA .u32) (Nat.lor (gX (eA .u32) (a:Int)) (gX (eA .u32) (y:Int))))))=_;rw[show gX (eA .u32) (a:Int)=a from kf h.1,show gX (eA .u32) (y:Int)=y from kf h.2];rfl
theorem arq(h:a≤31):2^a≤2147483648:=gw (n:=2) aa h
theorem an8{x:Nat}(d:h≤31)(c:a<2^h):a|||(x*2^h)%4294967296=a+(x*2^h)%4294967296:=by
 have e:(4294967296:Nat)=2^(32-h)*2^h:=by rw[←gG,(aa:32-h+h=32)]
 have b:(x*2^h)%4294967296=(x%2^(32-h))<<<h:=by
  rw[e,si,Nat.shiftLeft_eq]
 rw[b,Nat.or_comm,←Nat.shiftLeft_add_eq_or_of_lt c,js]
theorem Rn(a:List Nat)(s:Nat)(F:az a)(z:s≤31)(X:a.length<4294967294)(H:af):
 c5 219 [mag a,ay (s:Int)] H fun v b=>v=.slice H.next 0 (a.length+1) (.known (a.length+1))∧b.next=H.next+1∧∃L,az L∧L.length=a.length+1∧val L=val a*2^s∧L.getD a.length 0<2^s∧∀y,b.get y=if y=H.next then .cells (bx L) 0 else H.get y:=by
 refine aT akF ?_;simp(disch:=omega)only[go_sem,d219,Zs,Zr,Zq,aI,iI,vT];have Q:=arq z;have o:0<2^s:=fR aa
 refine bK (fun k c b=>∃(i:Nat) (L:List Nat),rd 0 c=mag a∧rd 1 c=ay (s:Int)∧rd 5 c=.slice H.next 0 (a.length+1) (.known (a.length+1))∧rd 6 c=ah (i:Int)∧k=a.length-i∧i≤a.length∧az L∧L.length=a.length+1∧val L=val (a.take i)*2^s∧L.getD i 0<2^s∧(∀p,i<p→L.getD p 0=0)∧b.next=H.next+1∧∀y,b.get y=if y=H.next then .cells (bx L) 0 else H.get y) a.length
  ⟨0,aW (a.length+1) 0,?_,?_,?_,?_,rfl,b4 _,P5 _,aE,?_,?_,?_,rfl,?_⟩ ?_
 iterate 3 simp only[go_sem]
 ·simp only[go_sem];rfl
 ·rw[Si];simp[val]
 ·simpa using o
 ·intro p _;simp only[cy,List.getElem?_replicate];split<;>rfl
 ·intro y;rw[af.aY];by_cases e:y=H.next
  ·rw[ao e.symm,ao e]
  ·rw[aj (fun h=>e h.symm),aj e]
 rintro k c b ⟨i,L,d,l,f,m,rfl,hi,j,hl,B,t,E,r,g⟩;have G:b.get H.next=.cells (bx L) 0:=by rw[g,ao rfl]
 simp only[Zp,Zo,Zn];by_cases J:i<a.length
 ·have P:=F.getD i;have T:(bx L).length=a.length+1:=by rw[ia,hl]
  have M:ep s (gQ .u64)=s:=ld (aa:s≤64);have C:a.getD i 0*2^s<4294967296*2^s:=og P o;have x:((a.getD i 0:Nat):Int)*((2^s:Nat):Int)=((a.getD i 0*2^s:Nat):Int):=by rw[fY]
  have u:=an8 (x:=a.getD i 0) z t;have w:L.getD i 0|||(a.getD i 0*2^s)%4294967296<4294967296:=Nat.or_lt_two_pow (n:=32) aa aa
  have q:a.getD i 0*2^s/4294967296<2^s:=uT C;have O:=pX J;have D:(val (a.take i)+4294967296^i*a.getD i 0)*2^s=val (a.take i)*2^s+4294967296^i*(a.getD i 0*2^s):=by rw[eu,cI]
  generalize a.getD i 0*2^s=v at C x u w q D
  have N:=qU (l:=L) (p:=i) (v:=L.getD i 0|||v%4294967296) aa;have A:=qU (l:=L.set i (L.getD i 0|||v%4294967296)) (p:=i+1) (v:=v/4294967296) (by rw[gE];omega);rw[getD_set_ne aa,E _ (mq i),fy,cG]at A;have I:((i:Int)+1).toNat=i+1:=aa;have U:(bx (L.set i (L.getD i 0|||v%4294967296))).length=a.length+1:=by rw[ia,gE,hl]
  have V:=j.getD i;simp(disch:=omega)only[go_sem,d,l,f,m,dt,jB,bW,I,hD,M,x,bV,aI,qM,n_,pC,Qb,G,fo,mD];refine⟨a.length-(i+1),aa,i+1,(L.set i (L.getD i 0|||v%4294967296)).set (i+1) (v/4294967296),?_,?_,?_,?_,rfl,aa,pF (pF j w) aa,by rw[gE,gE,hl],?_,?_,?_,r,?_⟩
  iterate 3 simp only[go_sem,d,l,f]
  ·simp only[go_sem];congr 1
  ·rw[O,D];have R:4294967296^i*(L.getD i 0+v%4294967296)=4294967296^i*L.getD i 0+4294967296^i*(v%4294967296):=cr _ _ _;have S:4294967296^i*v=4294967296^i*(v%4294967296)+4294967296^(i+1)*(v/4294967296):=by
    rw[cS,cI,←cr,Nat.mod_add_div]
   rw[u]at N A⊢;omega
  ·rw[cy,List.getElem?_set_self (by rw[gE];omega)];exact q
  ·intro p W;rw[getD_set_ne aa,getD_set_ne aa];exact E p aa
  ·intro y;rw[af.aK];by_cases e:y=H.next
   ·rw[ao e.symm,ao e,kf (a:=v/4294967296) aa]
   ·rw[aj (fun h=>e h.symm),aj e,af.aK,aj (fun h=>e h.symm),g,aj e]
 ·have K:i=a.length:=aa;subst K;simp(disch:=omega)only[go_sem,d,f,m,df];rw[b8 (aF _)]at B;exact⟨trivial,r,L,j,hl,B,t,g⟩
variable{u:Nat}{L:Nat}{o:IntKind}{s:Int}
theorem vY(b:0≤s∧s≤u∧u≤L):slice3 (j_ a) false true false [.slice h 0 u (.known L),.int o s]=some (.val (.slice h 0 s.toNat (.known L))):=by
 show qN h 0 u L a none (some (.int o s))=_;unfold qN;rw[sv (l:=0) (h:=s.toNat) rfl (mA o b.1) (b4 _) aa];show some (aX.val (.slice h (Bool.casesOn (motive:=fun _=>Nat) (bn L 0) (gF 0 (eM 0 a)) 0) (jv s.toNat 0) (.known (jv L 0))))=_;have:(Bool.casesOn (motive:=fun _=>Nat) (bn L 0) (gF 0 (eM 0 a)) 0)=0:=by
  cases bn L 0
  ·show 0+0*a=0;omega
  ·rfl
 rw[this];rfl
theorem R3:∀l:List Nat,trim l=l.take (trim l).length
 |[]=>rfl
 |d::l=>by
  have a:=R3 l;unfold trim;split
  ·rfl
  ·simp only[cV,List.take_succ_cons];rw[←a]
theorem arp(l f:List Nat)(b c:Nat)(o:l.length≤c)(hl:l.length<4294967296)(H:af)(g:H.get b=.cells (bx (l++f)) 0):
 c5 87 [.slice b 0 l.length (.known c)] H fun v d=>v=.slice b 0 (trim l).length (.known c)∧d=H:=by
 refine aT O5 ?_;simp only[d87,M4,M3];simp only[go_sem];refine bK (fun k F d=>∃m,rd 0 F=.slice b 0 m (.known c)∧trim (l.take m)=trim l∧k=m∧m≤l.length∧d=H) l.length ⟨l.length,by simp only[go_sem],by rw[b8 (aF _)],rfl,aF _,rfl⟩ ?_;rintro m F d ⟨_,e,a,rfl,q,rfl⟩;simp only[M1,M0];cases m with
 |zero=>
  simp(disch:=omega)only[go_sem,e,df];refine⟨?_,trivial⟩;rw[←a];rfl
 |succ i=>
  have hi:(((i+1:Nat):Int)-1).toNat=i:=aa;have p:i<(l++f).length:=by simp;omega
  have j:(l++f).getD i 0=l.getD i 0:=by
   simp only[cy];rw[p8 aa]
  have n:l.take (i+1)=l.take i++[l.getD i 0]:=by
   rw[kU aa,cy,cx aa];rfl
  rw[n]at a;by_cases h:l.getD i 0=0
  ·simp(disch:=omega)only[go_sem,e,dt,aI,bW,hi,g,hD,j,vY];refine⟨i,aa,i,?_,?_,rfl,aa,rfl⟩
   ·simp only[go_sem]
   ·rw[h,yh]at a;exact a
  ·simp(disch:=omega)only[go_sem,e,dt,df,aI,bW,hi,g,hD,j];rw[yf _ _ h]at a;rw[←a];simp;omega
variable{m:Fr}
theorem bU{v:V}(b:h≠a):rd a (put m (some h) v)=rd a m:=by rw[G7,aj b]
theorem agU(a L:List Nat)(n j ae z c:Nat)(am:az a)(bc:az L)(hn:a.length=n)(ca:2≤n)(hj:j+n<z)(a6:L.length=z)(b2:z<4294967295)(q s:Nat)(l G:Nat)(ci:2147483648≤a.getD (n-1) 0)
 (bb:∀h r,s=h*a.getD (n-1) 0+r→r*4294967296+L.getD (j+n-2) 0<h*a.getD (n-2) 0→q<h) (hq:q<4294967296) (ht:s≤a.getD (n-1) 0*4294967296+4294967295) (a4:s=l*a.getD (n-1) 0+G) (ce:G<a.getD (n-1) 0) (a':q≤l)
 (F:Fr) (H:af) (R:X→Fr→af→Prop) (a3:rd 9 F=mag a) (ar:rd 10 F=.slice ae 0 z (.known c)) (aw:rd 11 F=ah (n:Int)) (a0:rd 14 F=ah (j:Int)) (a1:rd 16 F=ay (l:Int)) (a2:rd 17 F=ay (G:Int)) (M:H.get ae=.cells (bx L) 0)
 (N:∀I h r,(∀t,t<115→t≠16→t≠17→rd t I=rd t F)→rd 16 I=ay ((h:Nat):Int)→h<4294967296→q≤h→s=h*a.getD (n-1) 0+r→h*a.getD (n-2) 0≤r*4294967296+L.getD (j+n-2) 0→R (.exit 4) I H):
 bw (.loop (pc 146 6)) R F H:=by
 have bo:=am.getD (n-1);have al:=am.getD (n-2);have bs:=bc.getD (j+n-2);have b1:(bx L).length=z:=by rw[ia,a6]
 have D:((n:Int)-1).toNat=n-1:=aa;have U:((n:Int)-2).toNat=n-2:=aa;have V:((j:Int)+(n:Int)-2).toNat=j+n-2:=aa;have be:l≤4294967297:=by
  have:l*a.getD (n-1) 0<(4294967297+1)*a.getD (n-1) 0:=by
   rw[b3 (4294967297+1),(aa:a.getD (n-1) 0*(4294967297+1)=a.getD (n-1) 0*4294967296+a.getD (n-1) 0*2)];omega
  have:=tE this;omega
 refine bK (fun k u H1=>∃h r,(∀t,t<115→t≠16→t≠17→rd t u=rd t F)∧rd 16 u=ay ((h:Nat):Int)∧rd 17 u=ay ((r:Nat):Int)∧s=h*a.getD (n-1) 0+r∧q≤h∧r<4294967296∧h≤l∧k=h∧H1=H) l ⟨l,G,fun _ _ _ _=>rfl,a1,a2,a4,a',aa,aF _,rfl,rfl⟩ ?_;rintro h u H1 ⟨_,r,i,o,x,T,a9,cf,bv,rfl,rfl⟩;have y:=(i 9 aa aa aa).trans a3;have J:=(i 10 aa aa aa).trans ar;have w:=(i 11 aa aa aa).trans aw;have K:=(i 14 aa aa aa).trans a0;simp only[WK,WJ,WI,WE,Wt];generalize C:a.getD (n-1) 0=f at*
 generalize P:a.getD (n-2) 0=m at*
 generalize Q:L.getD (j+n-2) 0=Z at*
 have v:1≤h→s=(h-1)*f+(r+f):=fun b=>by
  obtain⟨g,rfl⟩:∃g,h=g+1:=⟨h-1,aa⟩;rw[T,eu,iP,q7];omega
 have ad:1≤h→4294967296≤r+f→h-1<4294967296∧(h-1)*m≤(r+f)*4294967296+Z:=fun b d=>by
  have e:=v b;have A:(h-1)*f<4294967296*f:=aa;have h5:=tE A;have h6:=B8 h5 al;omega
 have E:∀ {h:Nat},1≤h→((h:Int)-1)=((h-1:Nat):Int):=fun b=>aa
 have bd:∀ {ab:Fr} (t:Nat),(∀t,t<115→t≠16→t≠17→rd t ab=rd t u)→t<115→t≠16→t≠17→rd t ab=rd t F:=fun t b d e A=>(b t d e A).trans (i t d e A)
 by_cases hB:4294967296≤h
 ·have a8:q<h:=aa;by_cases O:4294967296≤r+f
  ·obtain⟨W,Y⟩:=ad aa O;simp(disch:=omega)only[go_sem,y,w,o,x,df,bV,aI,jB,D,hD,C];refine N _ (h-1) (r+f) (fun t b d e=>?_) ?_ W aa (v aa) Y
   ·simp(disch:=omega)only[bU];exact i t b d e
   ·simp only[go_sem];rw[E aa]
  ·simp(disch:=omega)only[go_sem,y,w,o,x,dt,df,bV,aI,jB,D,hD,C];refine⟨h-1,aa,h-1,r+f,fun t b d e=>?_,?_,?_,v aa,aa,aa,aa,rfl,rfl⟩
   ·simp(disch:=omega)only[bU];exact i t b d e
   ·simp only[go_sem];rw[E aa]
   ·simp only[go_sem];rfl
 ·have S:=B8 (aa:h<4294967296) al;have p:(h:Int)*(m:Int)=((h*m:Nat):Int):=by rw[fY]
  have ba:=bb h r T;by_cases B:r*4294967296+Z<h*m
  ·have a8:=ba B;by_cases O:4294967296≤r+f
   ·obtain⟨W,Y⟩:=ad aa O;generalize h*m=p2 at S p B
    simp(disch:=omega)only[go_sem,y,J,w,K,o,x,dt,df,bV,aI,jB,bW,D,U,V,M,hD,C,P,Q,p,z0,zE];refine N _ (h-1) (r+f) (fun t b d e=>?_) ?_ W aa (v aa) Y
    ·simp(disch:=omega)only[bU];exact i t b d e
    ·simp only[go_sem];rw[E aa]
   ·generalize h*m=p2 at S p B
    simp(disch:=omega)only[go_sem,y,J,w,K,o,x,dt,bV,aI,jB,bW,D,U,V,M,hD,C,P,Q,p,z0,zE];refine⟨h-1,aa,h-1,r+f,fun t b d e=>?_,?_,?_,v aa,aa,aa,aa,rfl,rfl⟩
    ·simp(disch:=omega)only[bU];exact i t b d e
    ·simp only[go_sem];rw[E aa]
    ·simp only[go_sem];rfl
  ·have a7:h*m≤r*4294967296+Z:=aa;generalize cb:h*m=p2 at S p B
   simp(disch:=omega)only[go_sem,y,J,w,K,o,x,dt,df,bV,aI,jB,bW,U,V,M,hD,P,Q,p,z0,zE];refine N _ h r (fun t b d e=>?_) ?_ aa a9 T a7
   ·simp(disch:=omega)only[bU];exact i t b d e
   ·simp only[go_sem,o]
theorem AE{n:Nat}(h:n<18446744073709551616):hC (ic .and) [ay (n:Int),ay 4294967295]=some (.val (ay ((n%4294967296:Nat):Int))):=by
 show some (aX.val (ay (nN (pN .u64) (eA .u64) (Nat.land (gX (eA .u64) (n:Int)) (gX (eA .u64) 4294967295)))))=_;rw[ux h,yL,show gX (eA .u64) 4294967295=2^32-1 from rfl];exact congrArg (fun m:Nat=>some (aX.val (ay (m:Int)))) (Nat.and_two_pow_sub_one_eq_mod n 32)
theorem am_(d f:List Nat)(n j q o c h:Nat)(bd:az d)(bc:az f)(hn:d.length=n)(hj:j+n<o)(a2:f.length=o)(bo:o<4294967295)(hh:h<4294967296)
 (F:Fr) (H:af) (R:X→Fr→af→Prop) (am:rd 9 F=mag d) (Y:rd 10 F=.slice q 0 o (.known c)) (Z:rd 11 F=ah (n:Int)) (ab:rd 14 F=ah (j:Int)) (ac:rd 16 F=ay (h:Int)) (ad:rd 18 F=ay 0) (ae:rd 19 F=ay 0) (al:rd 20 F=ah 0) (a1:H.get q=.cells (bx f) 0)
 (hR:∀u v L a b,(∀t,t<151→t≠18→t≠19→t≠20→t≠21→t≠22→rd t u=rd t F)→rd 18 u=ay ((a:Nat):Int)→rd 19 u=ay ((b:Nat):Int)→a<4294967296→b≤1→L.length=o→az L→(∀p,j+n≤p→L.getD p 0=f.getD p 0)→L.take j=f.take j→val L+4294967296^j*(h*val d)=val f+4294967296^(j+n)*(a+b)→
   (∀y,y≠q→v.get y=H.get y)→v.next=H.next→v.get q=.cells (bx L) 0→R (.exit 6) u v):
 bw (.loop (pc 146 9)) R F H:=by
 refine bK (fun k r x=>∃(i a b:Nat) (L:List Nat),(∀t,t<151→t≠18→t≠19→t≠20→t≠21→t≠22→rd t r=rd t F)∧rd 18 r=ay ((a:Nat):Int)∧rd 19 r=ay ((b:Nat):Int)∧rd 20 r=ah (i:Int)∧a<4294967296∧b≤1∧k=n-i∧i≤n∧L.length=o∧az L∧(∀p,j+i≤p→L.getD p 0=f.getD p 0)∧L.take j=f.take j∧
  val L+4294967296^j*(h*val (d.take i))=val f+4294967296^(j+i)*(a+b)∧(∀y,y≠q→x.get y=H.get y)∧x.next=H.next∧x.get q=.cells (bx L) 0) n ⟨0,0,0,f,fun _ _ _ _ _ _ _=>rfl,ad,ae,al,aa,aa,rfl,b4 _,a2,bc,fun _ _=>rfl,rfl,by simp[val],fun _ _=>rfl,rfl,a1⟩ ?_
 rintro k r x ⟨i,a,b,L,m,J,K,M,a5,a4,rfl,hi,hl,G,V,Q,E,P,O,N⟩;have f9:=(m 9 aa aa aa aa aa aa).trans am;have ap:=(m 10 aa aa aa aa aa aa).trans Y;have I:=(m 11 aa aa aa aa aa aa).trans Z;have ar:=(m 14 aa aa aa aa aa aa).trans ab;have aw:=(m 16 aa aa aa aa aa aa).trans ac;simp only[WN,WM,WL];by_cases be:i<n
 ·have ba:=bd.getD i;have b1:=G.getD (j+i);have bj:(bx L).length=o:=by rw[ia,hl]
  have i1:((i:Int)+(j:Int)).toNat=j+i:=aa;have T:=B8 hh ba;have U:(h:Int)*((d.getD i 0:Nat):Int)=((h*d.getD i 0:Nat):Int):=by rw[fY]
  have a':=pX (l:=d) (i:=i) aa;have S:4294967296^j*(h*(val (d.take i)+4294967296^i*d.getD i 0))=4294967296^j*(h*val (d.take i))+4294967296^(j+i)*(h*d.getD i 0):=by
   rw[cr,cr,gG,Nat.mul_left_comm h,cI]
  generalize h*d.getD i 0=g at T U S
  have a7:(g:Int)+(a:Int)=((g+a:Nat):Int):=aa;obtain⟨s,a8,bv,b0⟩:∃s:Nat,((((L.getD (j+i) 0:Nat):Int)-(((g+a)%4294967296:Nat):Int))%18446744073709551616-(b:Int))%18446744073709551616=(s:Int)∧s<18446744073709551616∧L.getD (j+i) 0+4294967296*(s/4294967296%2)=s%4294967296+(g+a)%4294967296+b:=by
   refine⟨((((L.getD (j+i) 0:Nat):Int)-(((g+a)%4294967296:Nat):Int)-(b:Int))%18446744073709551616).toNat,?_,?_,?_⟩<;>omega
  have a9:=qU (l:=L) (p:=j+i) (v:=s%4294967296) aa;simp(disch:=omega)only[go_sem,f9,ap,I,ar,aw,J,K,M,dt,bV,aI,jB,bW,i1,N,hD,U,a7,qM,AE,hL,a8,n_,pC,DD,fo,mD];refine⟨n-(i+1),aa,i+1,(g+a)/4294967296,s/4294967296%2,L.set (j+i) (s%4294967296),fun t z A B C l D=>?_,?_,?_,?_,aa,aa,rfl,aa,by rw[gE,hl],pF G aa,fun p T=>?_,?_,?_,fun y W=>?_,O,?_⟩
  ·simp(disch:=omega)only[bU];exact m t z A B C l D
  iterate 2 simp only[go_sem]
  ·simp only[go_sem];congr 1
  ·rw[getD_set_ne aa];exact V p aa
  ·rw[List.take_set_of_le aa];exact Q
  ·rw[a',S];have l:4294967296^(j+i)*(s%4294967296+(g+a)+b)=4294967296^(j+i)*(L.getD (j+i) 0+4294967296*((g+a)/4294967296+s/4294967296%2)):=congrArg _ aa;rw[show j+(i+1)=j+i+1 from rfl,cS,cI];generalize(g+a)/4294967296+s/4294967296%2=w at l
   generalize s%4294967296=e at l a9
   simp only[cr]at l E⊢;omega
  ·rw[af.aK,aj (fun e=>W e.symm)];exact P y W
  ·rw[af.aK,ao rfl]
 ·have a6:i=n:=aa;subst a6;simp(disch:=omega)only[go_sem,I,M,df];rw[b8 aa]at E;refine hR _ _ L a b (fun t z A B C l D=>?_) ?_ ?_ a5 a4 hl G V Q E P O N
  ·simp(disch:=omega)only[bU];exact m t z A B C l D
  iterate 2 simp only[go_sem,J,K]
theorem S6(a d:List Nat)(n j g f c:Nat)(a0:az a)(aw:az d)(hn:a.length=n)(hj:j+n<f)(Z:d.length=f)(a4:f<4294967295)
 (F:Fr) (H:af) (R:X→Fr→af→Prop) (T:rd 9 F=mag a) (N:rd 10 F=.slice g 0 f (.known c)) (O:rd 11 F=ah (n:Int)) (P:rd 14 F=ah (j:Int)) (Q:rd 18 F=ay 0) (S:rd 24 F=ah 0) (Y:H.get g=.cells (bx d) 0)
 (hR:∀q m L b,(∀t,t<212→t≠18→t≠24→rd t q=rd t F)→rd 18 q=ay ((b:Nat):Int)→b≤1→L.length=f→az L→(∀p,j+n≤p→L.getD p 0=d.getD p 0)→L.take j=d.take j→val L+4294967296^(j+n)*b=val d+4294967296^j*val a→
   (∀y,y≠g→m.get y=H.get y)→m.next=H.next→m.get g=.cells (bx L) 0→R (.exit 8) q m):
 bw (.loop (pc 146 12)) R F H:=by
 refine bK (fun k l o=>∃(i b:Nat) (L:List Nat),(∀t,t<212→t≠18→t≠24→rd t l=rd t F)∧rd 18 l=ay ((b:Nat):Int)∧rd 24 l=ah (i:Int)∧b≤1∧k=n-i∧i≤n∧L.length=f∧az L∧(∀p,j+i≤p→L.getD p 0=d.getD p 0)∧L.take j=d.take j∧
  val L+4294967296^(j+i)*b=val d+4294967296^j*val (a.take i)∧(∀y,y≠g→o.get y=H.get y)∧o.next=H.next∧o.get g=.cells (bx L) 0) n ⟨0,0,d,fun _ _ _ _=>rfl,Q,S,aa,rfl,b4 _,Z,aw,fun _ _=>rfl,rfl,by simp[val],fun _ _=>rfl,rfl,Y⟩ ?_
 rintro k l o ⟨i,b,L,h,C,D,ac,rfl,hi,hl,A,K,J,z,I,G,E⟩;have W:=(h 9 aa aa aa).trans T;have U:=(h 10 aa aa aa).trans N;have B:=(h 11 aa aa aa).trans O;have V:=(h 14 aa aa aa).trans P;simp only[Wl,Wk,Wj];by_cases a1:i<n
 ·have a9:=a0.getD i;have a8:=A.getD (j+i);have a3:(bx L).length=f:=by rw[ia,hl]
  have i1:((i:Int)+(j:Int)).toNat=j+i:=aa;have ap:=pX (l:=a) (i:=i) aa;have ae:4294967296^j*(val (a.take i)+4294967296^i*a.getD i 0)=4294967296^j*val (a.take i)+4294967296^(j+i)*a.getD i 0:=by
   rw[cr,gG,cI]
  obtain⟨s,hs⟩:∃s,s=b+(L.getD (j+i) 0+a.getD i 0):=⟨_,rfl⟩;have al:(b:Int)+(((L.getD (j+i) 0:Nat):Int)+((a.getD i 0:Nat):Int))=(s:Int):=aa;have am:=qU (l:=L) (p:=j+i) (v:=s%4294967296) aa;simp(disch:=omega)only[go_sem,W,U,B,V,C,D,dt,bV,aI,jB,bW,i1,E,hD,al,qM,n_,pC,fo,mD];refine⟨n-(i+1),aa,i+1,s/4294967296,L.set (j+i) (s%4294967296),fun t r u v=>?_,?_,?_,aa,rfl,aa,by rw[gE,hl],pF A aa,fun p hp=>?_,?_,?_,fun y M=>?_,G,?_⟩
  ·simp(disch:=omega)only[bU];exact h t r u v
  ·simp only[go_sem]
  ·simp only[go_sem];congr 1
  ·rw[getD_set_ne aa];exact K p aa
  ·rw[List.take_set_of_le aa];exact J
  ·rw[ap,ae];have x:4294967296^(j+i)*(s%4294967296+4294967296*(s/4294967296))=4294967296^(j+i)*(b+(L.getD (j+i) 0+a.getD i 0)):=congrArg _ aa;rw[show j+(i+1)=j+i+1 from rfl,cS,cI];generalize s/4294967296=w at x
   generalize s%4294967296=e at x am
   simp only[cr]at x z⊢;omega
  ·rw[af.aK,aj (fun e=>M e.symm)];exact I y M
  ·rw[af.aK,ao rfl]
 ·have ad:i=n:=aa;subst ad;simp(disch:=omega)only[go_sem,B,D,df];rw[b8 aa]at z;refine hR _ _ L b (fun t r u v=>?_) ?_ ac hl A K J z I G E
  ·simp(disch:=omega)only[bU];exact h t r u v
  ·simp only[go_sem,C]
end Go.Proofs.YtddhncjmaahodaaGreatDoor
namespace Go.aD
theorem rW:∀ {l:List Nat}{k:Nat},(∀p,k≤p→l.getD p 0=0)→val l=val (l.take k)
 |[],_,_=>aE
 |d::l,0,h=>by
  have b:=h 0 (aF _);have a:=rW (l:=l) (k:=0) (fun p _=>by simpa using h (p+1) (b4 _));simp at b a;simp[val,b,a]
 |d::l,k+1,h=>by
  have a:=rW (l:=l) (k:=k) (fun p c=>by simpa using h (p+1) aa);simp only[List.take_succ_cons,val,a]
theorem Ay:∀ {l:List Nat}{k:Nat},val l<4294967296^k→∀p,k≤p→l.getD p 0=0
 |[],_,_,p,_=>aE
 |d::l,0,h,p,_=>by
  simp[val]at h;have hl:val l=0:=aa;cases p with
  |zero=>simp;omega
  |succ p=>simpa using Ay (l:=l) (k:=0) (by simpa using hl) p (b4 _)
 |d::l,k+1,h,0,a=>absurd a aa
 |d::l,k+1,h,p+1,a=>by
  have:val l<4294967296^k:=by
   simp only[val,cS]at h;omega
  simpa using Ay this p aa
theorem pW(l:List Nat)(j:Nat)(h:j≤l.length):val l=val (l.take j)+4294967296^j*val (l.drop j):=by
 have:=congrArg val (qc j l)
 grind [fM,g_]
theorem sJ(l:List Nat)(j p:Nat):(l.drop j).getD p 0=l.getD (j+p) 0:=by
 grind
theorem uG{l:List Nat}{i:Nat}(h:i<l.length):val (l.drop i)=l.getD i 0+4294967296*val (l.drop (i+1)):=by
 rw[lz h,cy,cx h];rfl
theorem vD{l:List Nat}{n:Nat}(d:2≤n)(e:n≤l.length)(f:∀p,n≤p→l.getD p 0=0):val l=(l.getD (n-1) 0*4294967296+l.getD (n-2) 0)*4294967296^(n-2)+val (l.take (n-2)):=by
 have c:val (l.drop n)=0:=by
  have:=rW (l:=l.drop n) (k:=0) (fun p _=>by simp_all);simpa [val]using this
 have a:=qT (l:=l) (i:=n-2) aa;have b:=uG (l:=l) (i:=n-1) aa;rw[(aa:n-1+1=n)]at b;rw[(aa:n-2+1=n-1)]at a;rw[a,b,c,fy,cG,b3 _ (4294967296^(n-2)),js (val _),js (l.getD (n-2) 0),b3 4294967296]
section
variable {T U V h k bT P Q It SB C8 asy q:Nat}
theorem arf(d:T=C8+Q*U)(e:It+Q*(h*V)=T+P*k)(f:It<P*(bT+1))(b:bT<k):U<h*V:=by
 have c:P*(bT+1)≤P*k:=fE _ b;have a:Q*U<Q*(h*V):=aa;exact Nat.lt_of_mul_lt_mul_left a
theorem anQ(b:T=C8+Q*U)(d:C8<Q)(c:SB+Q*(h*V)=T):h*V≤U:=by
 have a:Q*(h*V)<Q*(U+1):=by rw[cr,ef];omega
 have:=Nat.lt_of_mul_lt_mul_left a;omega
end
variable{d:List Nat}{a:Nat}{u:Nat}
theorem Q0{b:List Nat}{V:Nat}(f:a≤d.length)(g:a≤b.length)(i:b.take a=d.take a)(o:val b+4294967296^a*(u*V)=val d)(n:u=val (d.drop a)/V)(e:0<V):val (b.drop a)<V:=by
 have j:=pW d a f;have c:=pW b a g;rw[i]at c;have h:4294967296^a*(val (b.drop a)+u*V)=4294967296^a*val (d.drop a):=by rw[cr];omega
 have k:=Nat.eq_of_mul_eq_mul_left (fR aa) h;have l:=jt (val (d.drop a)) V;have m:=eX (val (d.drop a)) e
 grind
theorem IV(V Q h w:Nat):V*(Q*(h+4294967296*w))=Q*(h*V)+V*(Q*4294967296*w):=by
 grind
end Go.aD
namespace Go.Proofs.YtddhncjmaahodaaGreatDoor
open Go.au Go.aD
theorem Rs(n:Nat):rQ (n:Int) (ep 63 (gQ .u64))=((n/9223372036854775808:Nat):Int):=rfl
theorem aph(x u W r:Nat):x*(W*4294967296)+(r+W*u)=(x*4294967296+u)*W+r:=by
 rw[eu,b3 W 4294967296,←cI,b3 W u];omega
variable{h:Nat}{u:Nat}{L:Nat}
theorem amg{U V W d e f:Nat}(i:U=(h*4294967296+u)*W+L)(j:V=(d*4294967296+e)*W+f)(l:f<W)(g:U<V)(k:e<4294967296):h≤d:=by
 rcases oe d h with h1|h1
 ·have a:(d+1)*4294967296≤h*4294967296+u:=aa;have b:((d+1)*4294967296)*W≤(h*4294967296+u)*W:=ee _ a;have c:(d*4294967296+e+1)*W≤((d+1)*4294967296)*W:=ee _ aa;rw[eu (d*4294967296+e) 1 W,iP]at c;omega
 ·exact h1
set_option maxHeartbeats 4000000 in
theorem agc(a:List Nat)(n m u i c A:Nat)(y:az a)(hn:a.length=n)(bb:2≤n)(hh:c=m+n+1)(a':c<4294967295)(fn:2147483648≤a.getD (n-1) 0)(x:¬u=i)(B:List Nat)(f5:az B)(ed:B.length=c)(hA:val B=A)(es:val (B.drop (m+1))<val a)
 (F:Fr) (H:af) (R:X→Fr→af→Prop) (a2:rd 9 F=mag a) (Z:rd 10 F=.slice u 0 c (.known c)) (ab:rd 11 F=ah (n:Int)) (ac:rd 13 F=.slice i 0 (m+1) (.known (m+1))) (d4:rd 14 F=ah (m:Int)) (d7:H.get u=.cells (bx B) 0) (eb:H.get i=.cells (bx (aW (m+1) 0)) 0)
 (hR:∀F' W L b,(∀t,t<14→rd t F'=rd t F)→L.length=c→az L→az b→b.length=m+1→val L+val a*val b=A→val L<val a→W.get u=.cells (bx L) 0→W.get i=.cells (bx b) 0→W.next=H.next→R (.exit 2) F' W):
 bw (.loop (pc 146 15)) R F H:=by
 refine bK (fun k T Y=>∃(J:Nat) (L b:List Nat),(∀t,t<14→rd t T=rd t F)∧rd 14 T=ah ((J:Int)-1)∧k=J∧J≤m+1∧L.length=c∧az L∧az b∧b.length=m+1-J∧val L+val a*(4294967296^J*val b)=A∧val (L.drop J)<val a∧Y.get u=.cells (bx L) 0∧Y.get i=.cells (bx (aW J 0++b)) 0∧Y.next=H.next) (m+1)
  ⟨m+1,B,[],fun _ _=>rfl,by rw[d4];congr 1;omega,rfl,aF _,ed,f5,az.nil,aE,by rw[show val []=0 from rfl,fy,fy,cG];exact hA,es,d7,by simpa using eb,rfl⟩ ?_
 rintro J T Y ⟨_,L,b,C,a3,rfl,ge,hl,g,ca,ho,hv,a8,ad,dl,ba⟩;have f9:=(C 9 aa).trans a2;have ce:=(C 10 aa).trans Z;have cf:=(C 11 aa).trans ab;have gc:=(C 13 aa).trans ac;simp only[Wo,Wn,Wm];cases J with
 |zero=>
  simp(disch:=omega)only[go_sem,a3,dt];refine hR _ _ L b (fun t f=>?_) hl g ca aa (by simpa using hv) (by simpa using a8) ad (by simpa using dl) ba;simp(disch:=omega)only[bU];exact C t f
 |succ j=>
  have a4:rd 14 T=ah (j:Int):=by rw[a3];congr 1;omega
  clear a3;have em:val a<4294967296^n:=by rw[←hn];exact gY y
  have hz:∀p,n≤p→(L.drop (j+1)).getD p 0=0:=Ay (qg a8 em);have b1:∀p,j+n+1≤p→L.getD p 0=0:=fun p I=>by
   have:=hz (p-(j+1)) aa;rw[sJ]at this;rwa[(aa:j+1+(p-(j+1))=p)]at this
  have O:=vD (l:=a) bb aa (fun p I=>by rw[cy,m0 aa];rfl);have dT:val (a.take (n-2))<4294967296^(n-2):=by
   have:=gY (y.take (n-2));rwa[g_ aa]at this
  have hg:j+n<L.length:=aa;have N:=vD (l:=L.drop j) (n:=n+1) aa (by rw[g5];omega) (fun p I=>by rw[sJ];exact b1 _ aa);have bj:=pX (l:=L.drop j) (i:=n-2) (by rw[g5];omega);rw[(aa:n+1-1=n),(aa:n+1-2=n-1),sJ,sJ]at N;rw[(aa:n-2+1=n-1),sJ]at bj;have bv:val ((L.drop j).take (n-2))<4294967296^(n-2):=by
   have:=gY ((g.drop j).take (n-2));rwa[g_ (by rw[g5];omega)]at this
  have e0:4294967296^(n-1)=4294967296^(n-2)*4294967296:=by rw[(aa:n-1=n-2+1),cS]
  rw[bj,e0]at N;have K:j+(n-1)=j+n-1:=aa;have e2:j+(n-2)=j+n-2:=aa;rw[K,e2]at N;obtain⟨l,bo⟩:∃l,l=L.getD (j+n) 0*4294967296+L.getD (j+n-1) 0:=⟨_,rfl⟩;have ae:val (L.drop j)=(l*4294967296+L.getD (j+n-2) 0)*4294967296^(n-2)+val ((L.drop j).take (n-2)):=by
   rw[N,bo];exact aph _ _ _ _
  have fi:L.getD (j+n) 0≤a.getD (n-1) 0:=by
   have h1:=vD (l:=L.drop (j+1)) bb (by rw[g5];omega) hz;rw[sJ,sJ,(aa:j+1+(n-1)=j+n)]at h1;exact amg h1 O dT a8 (y.getD _)
  have e':val (L.drop j)/val a<4294967296:=by
   rw[q8 aa,uG aa];have:=g.getD j;omega
  have hq:val (L.drop j)/val a*val a≤val (L.drop j):=wG _ _;have dd:=BP O ae bv (g.getD _) aa hq;have cp:0<a.getD (n-1) 0:=aa;obtain⟨M,E⟩:∃M,M=l/a.getD (n-1) 0:=⟨_,rfl⟩;obtain⟨S,ap⟩:∃S,S=l%a.getD (n-1) 0:=⟨_,rfl⟩;have ds:l=M*a.getD (n-1) 0+S:=by rw[E,ap,b3];exact(jt _ _).symm
  have fa:S<a.getD (n-1) 0:=by rw[ap];exact eX _ cp
  have f6:=g.getD (j+n);have f7:=g.getD (j+n-1);have f8:=y.getD (n-1);have hp:M≤l:=by rw[E];exact ju _ _
  have hb:(bx L).length=c:=by rw[ia,hl]
  have i1:((j:Int)+(n:Int)).toNat=j+n:=aa;have i2:((j:Int)+(n:Int)-1).toNat=j+n-1:=aa;have i3:((n:Int)-1).toNat=n-1:=aa;have hi:((a.getD (n-1) 0:Nat):Int)≠0:=aa;rw[bo]at E ap;simp(disch:=omega)only[go_sem,f9,ce,cf,a4,df,bV,aI,jB,bW,i1,i2,i3,ad,hD,z0,zE,jK,mC,s8,yc,←E,←ap];have dv:l≤a.getD (n-1) 0*4294967296+4294967295:=by
   have:=ee 4294967296 fi;omega
  rw[←bo]at E;refine agU a L n j u c c y g hn bb aa hl a' (val (L.drop j)/val a) l M S fn (fun h r K e2=>BQ O ae bv hq K e2) e' dv ds fa (by rw[E];exact dd) _ _ _ ?_ ?_ ?_ ?_ ?_ ?_ ad ?_
  iterate 6 simp only[go_sem,f9,ce,cf,a4]
  intro cd h r g2 sH a9 hj du c';have G:∀t,t<14→rd t cd=rd t F:=fun t f=>by
   rw[g2 t aa aa aa];simp(disch:=omega)only[bU];exact C t f
  have rD:rd 14 cd=ah (j:Int):=by
   rw[g2 14 aa aa aa];simp(disch:=omega)only[bU];exact a4
  have dC:=BR O ae dT cp du a9 c';have cW:=(G 9 aa).trans a2;have ci:=(G 10 aa).trans Z;have iy:=(G 11 aa).trans ab;have sG:=(G 13 aa).trans ac;clear g2 ds dv du c' dd ae N bj bv O;rw[fF];simp(disch:=omega)only[go_sem];refine am_ a L n j u c c h y g hn aa hl a' a9 _ _ _ ?_ ?_ ?_ ?_ ?_ ?_ ?_ ?_ ad ?_
  iterate 8 simp only[go_sem,cW,ci,iy,rD,sH]
  intro aw H3 d v q g3 BO OR g0 gt Q b' bs db fp d' c0 cs;have z:∀t,t<14→rd t aw=rd t F:=fun t f=>by
   rw[g3 t aa aa aa aa aa aa];simp(disch:=omega)only[bU];exact G t f
  have t_:rd 14 aw=ah (j:Int):=by
   rw[g3 14 aa aa aa aa aa aa];simp(disch:=omega)only[bU];exact rD
  have BM:rd 16 aw=ay (h:Int):=by
   rw[g3 16 aa aa aa aa aa aa];simp(disch:=omega)only[bU];exact sH
  have nW:=(z 9 aa).trans a2;have b2:=(z 10 aa).trans Z;have qB:=(z 11 aa).trans ab;have zc:=(z 13 aa).trans ac;have dp:H3.get i=.cells (bx (aW (j+1) 0++b)) 0:=(d' i (fun e=>x e.symm)).trans dl;have P:d.getD (j+n) 0=L.getD (j+n) 0:=bs _ (aF _);have hd:(bx d).length=c:=by rw[ia,Q]
  have hf:(bx (aW (j+1) 0++b)).length=m+1:=by rw[ia];simp;omega
  clear g3 G rD sH cW ci iy sG;rw[fF];have f':=g.getD (j+n);by_cases eQ:L.getD (j+n) 0<v+q
  ·obtain⟨s,be,dq,bd,fd⟩:∃s:Nat,((((L.getD (j+n) 0:Nat):Int)-(v:Int))%18446744073709551616-(q:Int))%18446744073709551616=(s:Int)∧s<18446744073709551616∧s%4294967296+(v+q)=L.getD (j+n) 0+4294967296∧s/9223372036854775808=1:=by
    refine⟨((((L.getD (j+n) 0:Nat):Int)-(v:Int)-(q:Int))%18446744073709551616).toNat,?_,?_,?_,?_⟩<;>omega
   have bi:=qU (l:=d) (p:=j+n) (v:=s%4294967296) aa;rw[P]at bi;have hP:4294967296^(j+n)*(s%4294967296)+4294967296^(j+n)*(v+q)=4294967296^(j+n)*L.getD (j+n) 0+4294967296^(j+n)*4294967296:=by
    rw[←cr,←cr,bd]
   have g':val (d.set (j+n) (s%4294967296))+4294967296^j*(h*val a)=val L+4294967296^(j+n)*4294967296:=aa;have al:=gY (g.take j);rw[g_ aa]at al;have d5:=pW L j aa;have fs:val d<4294967296^(j+n)*(L.getD (j+n) 0+1):=by
    have K:=rW (l:=d) (k:=j+n+1) (fun p I=>by rw[bs p aa];exact b1 p I);rw[K,pX aa,P,cr,ef];have:=gY (b'.take (j+n));rw[g_ aa]at this;omega
   have et:=arf d5 fp fs eQ;have c1:0<val a:=aa;have hk:val (L.drop j)/val a<h:=(q8 c1).2 et;have hm:h-1≤val (L.drop j)/val a:=(tD c1).2 dC;have bc:h-1=val (L.drop j)/val a:=aa;have ex:c=d.length:=Q.symm;have fw:((h:Int)-1)=((h-1:Nat):Int):=aa;simp(disch:=omega)only[go_sem,b2,qB,t_,BM,BO,OR,dt,bV,aI,bW,i1,cs,P,hD,hL,be,Rs,fd,n_,pC,fo,mD,fw];have eh:(d.set (j+n) (s%4294967296)).length=c:=by rw[gE,Q]
   refine S6 a (d.set (j+n) (s%4294967296)) n j u c c y (pF b' aa) hn aa eh a' _ _ _ ?_ ?_ ?_ ?_ ?_ ?_ ?_ ?_
   iterate 6 simp only[go_sem,nW,b2,qB,t_]
   ·rw[af.aK,ao rfl]
   intro U H4 o w g4 _ g1 da d1 dE ev hr ea d9 d8;have fx:= ‹rd 18 U=_›;have V:∀t,t<14→rd t U=rd t F:=fun t f=>by
    rw[g4 t aa aa aa];simp(disch:=omega)only[bU];exact z t f
   have f3:rd 14 U=ah (j:Int):=by
    rw[g4 14 aa aa aa];simp(disch:=omega)only[bU];exact t_
   have f4:rd 16 U=ay ((h-1:Nat):Int):=by
    rw[g4 16 aa aa aa];simp only[go_sem]
   have f0:=(V 10 aa).trans Z;have f1:=(V 11 aa).trans ab;have f2:=(V 13 aa).trans ac;have e1:H4.get i=.cells (bx (aW (j+1) 0++b)) 0:=by
    rw[ea i (fun e=>x e.symm),af.aK,aj x];exact dp
   have a7:o.getD (j+n) 0=s%4294967296:=by
    rw[dE _ (aF _),cy,List.getElem?_set_self aa];rfl
   have hQ:4294967296^j*(h*val a)=4294967296^j*((h-1)*val a)+4294967296^j*val a:=by
    rw[←cr,←oR,(aa:(h-1).succ=h)]
   have ha:4294967296^j*((h-1)*val a)≤val L:=by
    have:=fE (4294967296^j) dC;omega
   have gs:val o+4294967296^(j+n)*w+4294967296^j*((h-1)*val a)=val L+4294967296^(j+n)*4294967296:=aa;have hc:s%4294967296+w=4294967296:=by
    refine oN fun hc=>?_
    have hs:=qU (l:=o) (p:=j+n) (v:=s%4294967296+w) aa;rw[a7,cr]at hs;have jj:=rW (l:=o.set (j+n) (s%4294967296+w)) (k:=j+n+1) (fun p I=>by
     rw[getD_set_ne aa,dE p aa,getD_set_ne aa,bs p aa];exact b1 p I)
    have eq:=gY ((pF d1 (p:=j+n) (v:=s%4294967296+w) aa).take (j+n+1));rw[←jj,g_ (by rw[gE];omega),cS]at eq;omega
   have fg:=qU (l:=o) (p:=j+n) (v:=0) aa;rw[a7,fy,cG]at fg;have gn:4294967296^(j+n)*(s%4294967296)+4294967296^(j+n)*w=4294967296^(j+n)*4294967296:=by rw[←cr,hc]
   have D:val (o.set (j+n) 0)+4294967296^j*((h-1)*val a)=val L:=aa;have hw:aB .u32 (((s%4294967296:Nat):Int)+(w:Int))=((0:Nat):Int):=by rw[n_];omega
   have he:(bx o).length=c:=by rw[ia,da]
   rw[fF];simp(disch:=omega)only[go_sem,f0,f1,f2,f3,f4,fx,gL,aI,bW,i1,d8,a7,hD,hw,fo,mD,x,e1,HB];refine⟨j,aa,j,o.set (j+n) 0,(h-1)::b,fun t f=>?_,?_,rfl,aa,by rw[gE,da],pF d1 aa,.mk aa ca,by simp;omega,?_,Q0 aa (by rw[gE];omega) (by rw[List.take_set_of_le aa,ev,List.take_set_of_le aa];exact db) D bc aa,?_,?_,by rw[jl,jl,d9,jl,c0,ba]⟩
   ·simp(disch:=omega)only[bU];exact V t f
   ·simp only[go_sem]
   ·have a1:val ((h-1)::b)=(h-1)+4294967296*val b:=rfl;rw[a1,IV,←mo,D,←hv,cS]
   ·rw[af.aK,aj (fun e=>x e.symm),af.aK,ao rfl]
   ·rw[af.aK,ao rfl]
  ·obtain⟨s,be,dq,bd⟩:∃s:Nat,((L.getD (j+n) 0:Nat):Int)-(v:Int)-(q:Int)=(s:Int)∧s<4294967296∧L.getD (j+n) 0=s+(v+q):=⟨L.getD (j+n) 0-(v+q),aa,aa,aa⟩;have bi:=qU (l:=d) (p:=j+n) (v:=s) aa;rw[P,bd,cr]at bi;have D:val (d.set (j+n) s)+4294967296^j*(h*val a)=val L:=aa;have bc:h=val (L.drop j)/val a:=by
    have e:=pW L j aa;have al:=gY (g.take j);rw[g_ aa]at al;have:=anQ e al D;have:=(tD (aa:0<val a)).2 this;omega
   have ex:c=d.length:=Q.symm;simp(disch:=omega)only[go_sem,b2,qB,zc,t_,BM,BO,OR,df,bV,gL,aI,bW,i1,cs,P,hD,be,Rs,fo,mD,x,dp,HB];refine⟨j,aa,j,d.set (j+n) s,h::b,fun t f=>?_,?_,rfl,aa,by rw[gE,Q],pF b' dq,.mk a9 ca,by simp;omega,?_,Q0 aa (by rw[gE];omega) (by rw[List.take_set_of_le aa];exact db) D bc aa,?_,?_,by rw[jl,jl,c0,ba]⟩
   ·simp(disch:=omega)only[bU];exact z t f
   ·simp only[go_sem]
   ·have a1:val (h::b)=h+4294967296*val b:=rfl;rw[a1,IV,←mo,D,←hv,cS]
   ·rw[af.aK,aj (fun e=>x e.symm),af.aK,ao rfl]
   ·rw[af.aK,ao rfl]
end Go.Proofs.YtddhncjmaahodaaGreatDoor
namespace Go.aD
def shr(s:Nat):List Nat→List Nat
 |[]=>[]
 |[d]=>[d/2^s]
 |d::e::l=>(d/2^s+(e%2^s)*2^(32-s))::shr s (e::l)
theorem s6(s:Nat):∀l,(shr s l).length=l.length
 |[]=>rfl
 |[_]=>rfl
 |d::e::l=>by simp[shr,s6 s (e::l)]
variable{a:Nat}
theorem two32(b:a≤31):(4294967296:Nat)=2^a*2^(32-a):=by
 rw[←gG,(aa:a+(32-a)=32)]
theorem x3(b:a≤31):∀l,val (shr a l)=val l/2^a
 |[]=>by simp[shr,val]
 |[d]=>by simp[shr,val]
 |d::e::l=>by
  have i:=x3 b (e::l);have h:0<2^a:=fR aa;have f:val (e::l)%2^a=e%2^a:=by
   show(e+4294967296*val l)%2^a=e%2^a;rw[two32 b,cI,Nat.add_mul_mod_self_left]
  have g:val (d::e::l)/2^a=d/2^a+2^(32-a)*val (e::l):=by
   show(d+4294967296*val (e::l))/2^a=_;rw[two32 b,cI,Nat.add_mul_div_left _ _ h]
  have c:=jt (val (e::l)) (2^a);rw[f]at c;rw[g];show d/2^a+(e%2^a)*2^(32-a)+4294967296*val (shr a (e::l))=_;rw[i,two32 b,uW (2^a),b3 (2^a*(val (e::l)/2^a)),b3 (e%2^a),mo,←cr,js (e%2^a),c]
theorem vW(b:a≤31):∀ {l},az l→az (shr a l)
 |[],h=>h
 |[d],h=>by
  have:=h.cons.1;exact .mk (e_ (ju _ _) this) az.nil
 |d::e::l,h=>by
  refine .mk ?_ (vW b h.cons.2);have c:0<2^a:=fR aa;have g:=h.cons.1;have i:d/2^a<2^(32-a):=by
   rw[q8 c,b3,←two32 b];exact g
  have f:(e%2^a+1)*2^(32-a)≤2^a*2^(32-a):=ee _ (eX _ c);rw[←two32 b,eu,iP]at f;omega
theorem x2{s:Nat}:∀ {l:List Nat}{i:Nat},i<l.length→(shr s l).getD i 0=l.getD i 0/2^s+(l.getD (i+1) 0%2^s)*2^(32-s)
 |[],_,h=>absurd h (m5 _)
 |[d],0,_=>by simp[shr]
 |[_],_+1,h=>by simp at h
 |d::e::l,0,_=>by simp[shr]
 |d::e::l,i+1,h=>by
  have a:=x2 (s:=s) (l:=e::l) (i:=i) (by simpa using h);simpa [shr]using a
end Go.aD
namespace Go.Proofs.YtddhncjmaahodaaGreatDoor
open Go.au Go.aD
theorem mS(x k:Nat):rQ (x:Int) k=((x/2^k:Nat):Int):=rfl
variable{d:List Nat}{a:Nat}
theorem FV{v:Nat}(h:a<d.length):(d.set a v).getD a 0=v:=by
 rw[cy,List.getElem?_set_self h];rfl
theorem an9{x e:Nat}(b:a≤31)(g:x<4294967296):x/2^a|||(e*2^(32-a))%4294967296=x/2^a+(e%2^a)*2^(32-a):=by
 have f:0<2^a:=fR aa;have c:x/2^a<2^(32-a):=by
  rw[q8 f,b3,←two32 b];exact g
 have d:(e*2^(32-a))%4294967296=(e%2^a)<<<(32-a):=by
  rw[two32 b,si,Nat.shiftLeft_eq]
 rw[d,Nat.or_comm,←Nat.shiftLeft_add_eq_or_of_lt c,js,Nat.shiftLeft_eq]
theorem aqe(l Y:List Nat)(s d c:Nat)(Z:az Y)(O:∀p,p<l.length→Y.getD p 0=l.getD p 0)(U:s≤31)(a7:l.length≤Y.length)(ba:Y.length<4294967295)
 (F:Fr) (H:af) (R:X→Fr→af→Prop) (ad:rd 8 F=ay (s:Int)) (ab:rd 25 F=.slice d 0 l.length (.known c)) (ac:rd 26 F=ah 0) (ar:H.get d=.cells (bx Y) 0)
 (hR:∀L r M,(∀t,t<260→t≠26→rd t L=rd t F)→M.length=Y.length→az M→(∀p,p<l.length→M.getD p 0=(shr s l).getD p 0)→(∀y,y≠d→r.get y=H.get y)→r.next=H.next→r.get d=.cells (bx M) 0→R (.exit 10) L r):
 bw (.loop (pc 146 18)) R F H:=by
 refine bK (fun k B u=>∃(i:Nat) (M:List Nat),(∀t,t<260→t≠26→rd t B=rd t F)∧rd 26 B=ah (i:Int)∧k=l.length-i∧i≤l.length∧M.length=Y.length∧az M∧(∀p,p<i→M.getD p 0=(shr s l).getD p 0)∧(∀p,i≤p→p<l.length→M.getD p 0=l.getD p 0)∧(∀y,y≠d→u.get y=H.get y)∧u.next=H.next∧u.get d=.cells (bx M) 0) l.length
  ⟨0,Y,fun _ _ _=>rfl,ac,rfl,b4 _,rfl,Z,fun p f=>absurd f (m5 _),fun p _ f=>O p f,fun _ _=>rfl,rfl,ar⟩ ?_
 rintro k B u ⟨i,M,j,D,rfl,hi,hl,o,K,J,I,G,E⟩;have N:=(j 8 aa aa).trans ad;have C:=(j 25 aa aa).trans ab;simp only[Wr,Wq,Wp];have f:0<2^s:=fR aa;by_cases Q:i<l.length
 ·have A:=o.getD i;have a8:(bx M).length=Y.length:=by rw[ia,hl]
  have i1:((i:Int)+1).toNat=i+1:=aa;have W:ep s (gQ .u32)=s:=ld (aa:s≤32);have a5:ep (32-s) (gQ .u64)=32-s:=ld (aa:32-s≤64);have ap:(32:Int)-(s:Int)=((32-s:Nat):Int):=aa;have m:=x2 (s:=s) Q;rw[←J i (aF _) Q]at m;have P:M.getD i 0/2^s≤M.getD i 0:=ju _ _;by_cases hj:i+1<l.length
  ·have he:=o.getD (i+1);rw[←J (i+1) aa hj]at m;have z:=an9 (x:=M.getD i 0) (e:=M.getD (i+1) 0) U A;rw[←m]at z;have S:((M.getD (i+1) 0:Nat):Int)*((2^(32-s):Nat):Int)=((M.getD (i+1) 0*2^(32-s):Nat):Int):=by rw[fY]
   have a3:M.getD (i+1) 0*2^(32-s)≤4294967295*4294967296:=jX aa (cH (gw (n:=2) aa (aa:32-s≤32)) (aF _));generalize M.getD (i+1) 0*2^(32-s)=v at z S a3
   obtain⟨w,V⟩:∃w,w=M.getD i 0/2^s:=⟨_,rfl⟩;rw[←V]at z P;have g1:(M.set i w).getD i 0=w:=FV aa;have g2:(M.set i w).getD (i+1) 0=M.getD (i+1) 0:=getD_set_ne aa;have a9:(bx (M.set i w)).length=Y.length:=by rw[ia,gE,hl]
   have a':(M.set i w).length=Y.length:=by rw[gE,hl]
   have a2:=(vW U (l:=l) (fun x A=>by
    obtain⟨q,T,rfl⟩:=List.getElem_of_mem A;have a:=Z.getD q;rw[O q T,cy,cx T]at a;exact a)).getD i
   simp(disch:=omega)only[go_sem,N,C,D,dt,aI,bW,i1,E,hD,W,a5,mS,←V,ap,g1,g2,S,bV,n_,pC,Qb,z,fo,mD,List.set_set];refine⟨l.length-(i+1),aa,i+1,M.set i ((shr s l).getD i 0),fun t a b=>?_,?_,rfl,aa,by rw[gE,hl],pF o a2,fun p f=>?_,fun p a b=>?_,fun y g=>?_,G,?_⟩
   ·simp(disch:=omega)only[bU];exact j t a b
   ·simp only[go_sem];rfl
   ·by_cases e:p=i
    ·rw[e,FV aa]
    ·rw[getD_set_ne (fun h=>e h.symm)];exact K p aa
   ·rw[getD_set_ne aa];exact J p aa b
   ·rw[af.aK,aj (fun e=>g e.symm),af.aK,aj (fun e=>g e.symm)];exact I y g
   ·rw[af.aK,ao rfl]
  ·have h0:l.getD (i+1) 0=0:=by rw[cy,m0 aa];rfl
   rw[h0,Nat.zero_mod,jg,cG]at m;simp(disch:=omega)only[go_sem,N,C,D,dt,df,aI,bW,E,hD,W,mS,fo,mD];refine⟨l.length-(i+1),aa,i+1,M.set i (M.getD i 0/2^s),fun t a b=>?_,?_,rfl,aa,by rw[gE,hl],pF o (e_ P A),fun p f=>?_,fun p a b=>?_,fun y g=>?_,G,?_⟩
   ·simp(disch:=omega)only[bU];exact j t a b
   ·simp only[go_sem];rfl
   ·by_cases e:p=i
    ·rw[e,FV aa,m]
    ·rw[getD_set_ne (fun h=>e h.symm)];exact K p aa
   ·omega
   ·rw[af.aK,aj (fun e=>g e.symm)];exact I y g
   ·rw[af.aK,ao rfl]
 ·have a0:i=l.length:=aa;subst a0;simp(disch:=omega)only[go_sem,C,D,df];refine hR _ _ M (fun t a b=>?_) hl o K I G E;simp(disch:=omega)only[bU];exact j t a b
theorem afW(l:List Nat)(n:Nat):(bx l).take n=bx (l.take n):=by simp[bx,List.map_take]
variable{c:af}{I:af}{h:Nat}
theorem ahH{b:Cap}{l:List Nat}(g:c.get a=.cells (bx d) 0)(i:I.get a=.none)(k:l.length=h)(f:d.take h=l):bO c I (.slice a 0 h b) (mag l):=by
 subst k;have j:l.length≤d.length:=by
  have:=congrArg kD f;rw[dP]at this;omega
 cases l with
 |nil=>exact .fj a 0 b
 |cons e l=>
  refine .row (m:=(e::l).length) (cs:=bx (e::l)) ?_ (m7 _) i (cD.refl _);rw[fI g,dA,eZ,ao (by rw[ia];exact j),afW,f]
theorem anP(b:List Nat)(E:az b)(G:0<b.length)(J:b.length<4294967295)(C:0<b.getD (b.length-1) 0)(F:Fr)(H:af)(R:X→Fr→af→Prop)(u:rd 1 F=mag b)(w:rd 8 F=ay 0)
 (x:∀e s,(∀t,t<49→t≠8→rd t e=rd t F)→rd 8 e=ay ((s:Nat):Int)→s≤31→2147483648≤b.getD (b.length-1) 0*2^s→b.getD (b.length-1) 0*2^s<4294967296→R (.exit 0) e H):
 bw (.loop (pc 146 1)) R F H:=by
 have D:=E.getD (b.length-1);refine bK (fun k f n=>∃s:Nat,(∀t,t<49→t≠8→rd t f=rd t F)∧rd 8 f=ay ((s:Nat):Int)∧k=32-s∧s≤31∧b.getD (b.length-1) 0*2^s<4294967296∧n=H) 32 ⟨0,fun _ _ _=>rfl,w,rfl,aa,by rw[nL,ef];exact D,rfl⟩ ?_;rintro k f n ⟨s,j,g,rfl,B,m,rfl⟩;have o:=(j 1 aa aa).trans u;simp only[Wi,Wh];have r:((b.length:Int)-1).toNat=b.length-1:=aa;have p:ep s (gQ .u32)=s:=ld (aa:s≤32);have c:((b.getD (b.length-1) 0:Nat):Int)*((2^s:Nat):Int)=((b.getD (b.length-1) 0*2^s:Nat):Int):=by rw[fY]
 have q:b.getD (b.length-1) 0*2^(s+1)=b.getD (b.length-1) 0*2^s*2:=by rw[cS,cI]
 have z:2^s≤b.getD (b.length-1) 0*2^s:=by
  have:=ee (2^s) C;simpa using this
 by_cases l:b.getD (b.length-1) 0*2^s<2147483648
 ·have I:s<31:=(Nat.pow_lt_pow_iff_right (a:=2) aa).1 (e_ z (show _<2^31 from l));obtain⟨v,d⟩:∃v,v=b.getD (b.length-1) 0*2^s:=⟨_,rfl⟩;rw[←d]at m l c q;simp(disch:=omega)only[go_sem,o,g,jB,r,hD,p,c,gL,bV,aI,dt];refine⟨32-(s+1),aa,s+1,fun t h i=>?_,?_,rfl,aa,by rw[q];omega,rfl⟩
  ·simp(disch:=omega)only[bU];exact j t h i
  ·simp only[go_sem];rfl
 ·obtain⟨v,d⟩:∃v,v=b.getD (b.length-1) 0*2^s:=⟨_,rfl⟩;rw[←d]at c;have A:=m;have y:=l;rw[←d]at A y;simp(disch:=omega)only[go_sem,o,g,jB,r,hD,p,c,gL,aI,df];refine x _ s (fun t h i=>?_) ?_ B aa m
  ·simp(disch:=omega)only[bU];exact j t h i
  ·simp only[go_sem,g]
end Go.Proofs.YtddhncjmaahodaaGreatDoor
namespace Go.aD
variable{h:Nat}{u:Nat}
theorem af0(b:4294967296^u≤h):u<(aO h).length:=by
 have:=gY (gW h);rw[fQ]at this;exact(Nat.pow_lt_pow_iff_right (a:=4294967296) aa).1 (e_ b this)
variable{d:List Nat}{a:Nat}
theorem mV(b:d.length=a+1):val d=val (d.take a)+4294967296^a*d.getD a 0:=by
 have h:=qT (l:=d) (i:=a) aa;rw[jF aa]at h;simpa [val]using h
variable{L:Nat}
theorem zz(o:(aO h).length=L+1)(q:u≤31)(i:2147483648≤(aO h).getD L 0*2^u)(d:(aO h).getD L 0*2^u<4294967296):
 (aO (h*2^u)).length=L+1∧2147483648≤(aO (h*2^u)).getD L 0:=by
 have e:=mV o;rw[fQ]at e;have j:=gY ((gW h).take L);rw[g_ aa]at j;obtain⟨t,r⟩:∃t,t=(aO h).getD L 0:=⟨_,rfl⟩;obtain⟨lo,m⟩:∃lo,lo=val ((aO h).take L):=⟨_,rfl⟩;rw[←r]at i d e;rw[←m]at j e;have p:0<2^u:=fR aa;have x:0<4294967296^L:=fR aa;have l:(t+1)*2^u≤4294967296:=by
  rw[two32 q]at d⊢;rw[b3 (2^u)]at d⊢;exact ee _ (tE d)
 have v:h*2^u<4294967296^(L+1):=by
  have a:h<4294967296^L*(t+1):=by rw[cr,ef];omega
  have b:h*2^u<4294967296^L*(t+1)*2^u:=og a p;rw[cI]at b;have c:=fE (4294967296^L) l;rw[cS];omega
 have w:4294967296^L*(t*2^u)≤h*2^u:=by
  rw[←cI];exact ee _ aa
 have A:4294967296^L*2147483648≤h*2^u:=cH (fE _ i) w;have y:=vi v;have z:L<(aO (h*2^u)).length:=af0 aa;have hl:(aO (h*2^u)).length=L+1:=aa;refine⟨hl,?_⟩;have g:=mV hl;rw[fQ]at g;have n:=gY ((gW (h*2^u)).take L);rw[g_ aa]at n;obtain⟨f,s⟩:∃f,f=(aO (h*2^u)).getD L 0:=⟨_,rfl⟩;rw[←s]at g⊢;refine jW fun k=>?_
 have:4294967296^L*(f+1)≤4294967296^L*2147483648:=fE _ k
 grind
theorem ahs{n:Nat}(m:val d=a*2^u)(hl:d.length=L+n+2)(j:(aO a).length=L+n+1)(k:(aO h).length=n+1):val (d.drop (L+1))<h*2^u:=by
 have i:0<2^u:=fR aa;have e:=pW d (L+1) aa;have b:=gY (gW a);rw[fQ,j]at b;have c:=(pT h).pos (by grind);rw[fQ,k,q7]at c;have l:a*2^u<4294967296^(L+1)*(4294967296^n*2^u):=by
  rw[←cI,←gG,(aa:L+1+n=L+n+1)];exact og b i
 have f:4294967296^(L+1)*val (d.drop (L+1))<4294967296^(L+1)*(4294967296^n*2^u):=aa;have g:=Nat.lt_of_mul_lt_mul_left f;exact eF g (ee _ c)
theorem aoR{Q:Nat}(e:0<h)(b:L+h*2^u*Q=a*2^u)(hl:L<h*2^u):Q=a/h∧L/2^u=a%h:=by
 have d:0<2^u:=fR aa;have c:a*2^u/(h*2^u)=Q:=by
  rw[←b,js,b3 (h*2^u),js,Nat.add_mul_div_right _ _ aa,m3 hl,eJ]
 grind [Nat.add_mul_mod_self_left,kf,Nat.mul_div_mul_right,si,uU]
end Go.aD
namespace Go.Proofs.YtddhncjmaahodaaGreatDoor
open Go.au Go.aD
variable{c:af}{I:af}{a:Nat}{h:Nat}{d:List Nat}
theorem ahF{g gp f:Nat}{e:Cap}(i:c.get a=.cells (bx d) g)(m:c.get g=.bD gp f)(l:f≤a)(j:I.get a=.none)(n:d.length=h):bO c I (.slice a 0 h e) (mag d):=by
 subst n;cases d with
 |nil=>exact .fj a 0 e
 |cons b d=>
  refine .row (m:=(b::d).length) (cs:=bx (b::d)) ?_ (m7 _) j (cD.refl _);have k:c.cells? a=some (bx (b::d)):=by
   unfold af.cells?;rw[i];show aQ (c.fV a g) _=_;rw[gB.2 (.inr ⟨gp,f,m,l⟩)];rfl
  unfold af.cP;rw[k];show cj (ej (bx (b::d)) 0) (b::d).length=some (bx (b::d));rw[dA,eZ,ao (by rw[ia];exact aF _),b8 (by rw[ia];exact aF _)]
theorem kR:(af.zero a).get h=.none:=af.e7 _ _
theorem af1(h:(aO a).length=1):aO a=[a]∧a<4294967296:=by
 have b:=fQ a;have c:=gW a
 match e:aO a,h with
 |[d],_=>
  rw[e]at b c;simp[val]at b;subst b;exact⟨rfl,c.cons.1⟩
theorem UM(l:List Nat)(hl:l.length≤2000000)(b:Nat)(H:af)(c:H.get b=.cells [] 0)(m:b<H.next)(Q:Option (V×af)→Prop)
 (h:∀v a,bO a (af.zero a.next) v (mag l)→Q (some (v,a))):Q (fA 1 4 [.slice b 0 0 (.known 0),mag l] H):=by
 cases l with
 |nil=>
  exact h _ _ (.fj b 0 _)
 |cons d l=>
  have i:kn (mag (d::l))=some (l.length+1):=rfl;have f:dX H 1 (l.length+1) (mag (d::l))=some (bx (d::l)):=by
   show cj (bx (d::l)) (eM (l.length+1) 1)=_;rw[eZ,ao (by rw[ia];show(l.length+1)*1≤l.length+1;omega),b8 (by rw[ia];show l.length+1≤(l.length+1)*1;omega)]
  have e:fA 1 4 [.slice b 0 0 (.known 0),mag (d::l)] H=kJ H 1 (l.length+1) (bx (d::l)):=by
   show an (kn (mag (d::l))) (fun n=>an (dX H 1 n (mag (d::l))) fun j=>jJ 1 4 (.slice b 0 0 (.known 0)) n j H)=_;rw[i];show an (dX H 1 (l.length+1) (mag (d::l))) _=_;rw[f];show aQ (i_ (0+(l.length+1)) 4) (Bool.casesOn (motive:=fun _=>Option (V×af)) (bL (0+(l.length+1)) 0) (an (H.cP b 0 (0*1)) fun k=>kJ H 1 (0+(l.length+1)) (cX k (bx (d::l)))) (an (H.e3 b (0+0*1) (bx (d::l))) fun H=>some (V.slice b 0 (0+(l.length+1)) (.known 0),H)))=_;have g:i_ (0+(l.length+1)) 4=true:=by
    simp at hl;unfold i_;rw[ki aa,ki (show eM (0+(l.length+1)) 4≤1099511627776 from by show(0+(l.length+1))*4≤_;omega)];rfl
   rw[g,show bL (0+(l.length+1)) 0=false from by rw[eJ];rfl,fI c];simp only[jg,dA,zl,xK,zC,BS,eJ]
  rw[e];refine h _ _ (ahF (g:=H.next+1) (gp:=H.next) (f:=H.next) ?_ ?_ (aF _) kR aE)
  ·rw[af.aY,af.aY];rw[aj (by show¬(H.next+1=H.next);omega),ao rfl]
  ·rw[af.aY,ao (show(H.push (.cells (bx (d::l)) (Nat.succ H.next))).next=H.next+1 from rfl)]
set_option maxHeartbeats 4000000 in
theorem Nh(x y:Nat)(E:0<y)(dd:(aO x).length≤2000000)(ds:(aO y).length≤2000000):aS 146 [mag (aO x),mag (aO y)] (.aA [mag (aO (x/y)),mag (aO (x%y))]):=by
 refine pI (R:=fun v=>v=_) (.cons (j4 _) (.cons (j4 _) .nil)) ?_;refine aT aj7 ?_
 have k:∀(a b:V) (H:af),bO H (af.zero H.next) a (mag (aO (x/y)))→bO H (af.zero H.next) b (mag (aO (x%y)))→∃v,bO H (af.zero H.next) (.aA [a,b]) v∧bA v∧v=.aA [mag (aO (x/y)),mag (aO (x%y))]:=fun a b H u h2=>
  ⟨_,.aA (.cons u (.cons h2 .nil)),.aA (.cons (j4 _) (.cons (j4 _) .nil)),rfl⟩
 have P:=Ku (aO x) (aO y) (gW _) (gW _) (pT _) (pT _) aa aa;rw[fQ,fQ]at P;have ly:0<(aO y).length:=(sB y).2 aa;simp only[d146,WH,WG,WD,WC,WB,WA,Wz,Wy,Wx,Ww,Wv,Wu,Ws];simp only[go_sem];refine use P ?_;by_cases d:x<y
 ·have hc:nO x y<0:=by unfold nO;rw[ao d];decide
  simp(disch:=assumption)only[go_sem,dt];refine UM (aO x) dd 5 _ ?_ ?_ (fun r=>gk _ _ _ r) fun v j hv=>?_
  ·simp only[go_sem]
  ·exact mq 5
  simp only[go_sem];rw[m3 d,kf d,iZ]at k;rw[m3 d,kf d,iZ];exact k _ _ _ .fL hv
 have bo:y≤x:=aa;have hc:¬nO x y<0:=by
  unfold nO;rw[aj d];split<;>omega
 simp(disch:=assumption)only[go_sem,df];by_cases u:(aO y).length=1
 ·obtain⟨N,am⟩:=af1 u;have Q:=RD (aO x) y (gW _) ⟨E,am⟩ aa;rw[fQ]at Q;have bs:eo none 1 [mag [y],ah 0]=some (.val (.dh [V.int .u32 (y:Int)] 0)):=jB (l:=[y]) ⟨ag,aE⟩;simp(disch:=omega)only[go_sem,N,bs,gP,Int.natCast_one,decide_true];rw[←N];refine use Q ?_;have hr:x%y<4294967296:=qg (eX _ E) am;simp only[go_sem];refine jo (b:=5) (cs:=bx [x%y]) (args2:=[mag [x%y]]) (rU [x%y] aE) ?_ ⟨0,_,_,ec.2 rfl⟩ (.cons (rB (l:=[x%y]) ?_ ?_ rfl) .nil) ?_
  ·simp only[go_sem];rfl
  ·simp only[go_sem];rfl
  ·rw[af.aK,ao rfl]
  simp only[go_sem];have et:trim [x%y]=aO (x%y):=by
   rw[pU (.mk hr az.nil)];simp[val]
  rw[et];exact k _ _ _ (.same _) (.same _)
 ·obtain⟨n,W⟩:∃n,(aO y).length=n+2:=⟨(aO y).length-2,aa⟩;obtain⟨m,B⟩:∃m,(aO x).length=m+(n+1)+1:=by
   have:=BU bo;exact⟨(aO x).length-(n+2),aa⟩
  have ht:0<(aO y).getD ((aO y).length-1) 0:=lA (H6 aa);simp(disch:=omega)only[go_sem,df];refine anP (aO y) (gW _) ly aa ht _ _ _ ?_ ?_ ?_
  iterate 2 simp only[go_sem]
  intro F s w t f Y Z;have f0:rd 0 F=mag (aO x):=by rw[w 0 aa aa];simp only[go_sem]
  have f1:rd 1 F=mag (aO y):=by rw[w 1 aa aa];simp only[go_sem]
  clear w;rw[(aa:(aO y).length-1=n+1)]at Y Z;obtain⟨D,cs⟩:=zz W f Y Z;rw[fF];simp only[go_sem,f1,t];refine(Rn (aO y) s (gW _) f aa _).mono ?_;rintro _ j ⟨rfl,cd,c,c',b2,ad,-,a9⟩;have R:j.get 5=.cells (bx c) 0:=(a9 5).trans (ao rfl);rw[fQ]at ad;have a0:trim c=aO (y*2^s):=by rw[pU c',ad]
  simp only[go_sem];refine jo (b:=5) (cs:=bx c) (args2:=[mag c]) (rU c aa) R ⟨0,_,_,ec.2 rfl⟩ (.cons (rB (l:=c) R ?_ b2) .nil) ?_
  ·rw[af.aK,ao rfl]
  rw[a0];simp only[go_sem,f0,t];refine(Rn (aO x) s (gW _) f aa _).mono ?_;rintro _ I ⟨rfl,X,K,c2,A,C,-,O⟩;have ce:j.next=6:=cd
  have ab:(j.set 5 .none).next=6:=by rw[jl];exact ce
  rw[ab]at O X;have bi:I.get 6=.cells (bx K) 0:=by rw[O,ao rfl]
  rw[fQ]at C;rw[B]at A;have im:((m+(n+1)+1+1:Nat):Int)-((n+1+1:Nat):Int)-1=(m:Int):=aa;rw[ab,B];simp(disch:=omega)only[go_sem,D,aI,im,iI,vT];have o:I.next=7:=X
  refine agc (aO (y*2^s)) (n+1+1) m 6 7 (m+(n+1)+1+1) (x*2^s) (gW _) D aa aa aa (by rw[q7];exact cs) ag K c2 A C ?_ _ _ _ ?_ ?_ ?_ ?_ ?_ ?_ ?_ ?_
  ·rw[fQ];exact ahs C A B W
  iterate 5 simp only[go_sem,o]
  ·rw[af.aY,aj (by rw[o];decide)];exact bi
  ·rw[af.aY,ao o]
  intro i H3 L h g b1 ap db ca ae al S cf dl;rw[fQ]at ae al;have a6:rd 8 i=ay (s:Int):=by rw[g 8 aa];simp only[go_sem,t]
  have a3:rd 10 i=.slice 6 0 (m+(n+1)+1+1) (.known (m+(n+1)+1+1)):=by rw[g 10 aa];simp only[go_sem]
  have a4:rd 11 i=ah ((n+1+1:Nat):Int):=by rw[g 11 aa];simp only[go_sem]
  have a5:rd 13 i=.slice 7 0 (m+1) (.known (m+1)):=by
   rw[g 13 aa];simp only[go_sem,o]
  clear g;rw[fF];obtain⟨hQ,hR⟩:=aoR E ae al;have bv:((n+1+1:Nat):Int).toNat=n+1+1:=bH _;have b0:(L.take (n+1+1)).length=n+1+1:=by rw[dP,b1];omega
  simp(disch:=omega)only[go_sem,a3,a4,vY,bv];have ac:=arp (L.take (n+1+1)) (L.drop (n+1+1)) 6 (m+(n+1)+1+1) aa aa H3 (by rw[qc];exact S);rw[b0]at ac;refine ac.mono ?_;rintro _ _ ⟨rfl,rfl⟩;obtain⟨l,hl⟩:∃l,l=trim (L.take (n+1+1)):=⟨_,rfl⟩;rw[←hl];have b':=R2 (L.take (n+1+1));rw[←hl]at b';have cb:l=L.take l.length:=by
   have:=R3 (L.take (n+1+1));rw[←hl,List.take_take]at this;rw[(aa:min l.length (n+1+1)=l.length)]at this;exact this
  have cp:val l=val L:=by
   rw[hl,yo];refine(rW (Ay ?_)).symm;have:=gY (gW (y*2^s));rw[fQ,D]at this;omega
  simp only[go_sem];refine aqe l L s 6 (m+(n+1)+1+1) ap (fun p q=>?_) f aa aa _ _ _ ?_ ?_ ?_ S ?_
  ·rw[cb];simp only[cy];rw[List.getElem?_take_of_lt q]
  iterate 3 simp only[go_sem,a6]
  intro G J M z dk dq ba a' dp bj;have sG:rd 13 G=.slice 7 0 (m+1) (.known (m+1)):=by rw[z 13 aa aa];simp only[go_sem,a5]
  have a7:rd 25 G=.slice 6 0 l.length (.known (m+(n+1)+1+1)):=by rw[z 25 aa aa];simp only[go_sem]
  clear z;have bb:M.take l.length=shr s l:=by
   refine uQ fun p=>?_
   by_cases q:p<l.length
   ·have e:=ba p q;simp only[cy]at e;rw[List.getElem?_take_of_lt q];rw[cx aa,cx (by rw[s6];omega)]at e⊢;exact congrArg some e
   ·rw[m0 (by rw[dP];omega),m0 (by rw[s6];omega)]
  have U:J.get 7=.cells (bx h) 0:=by rw[a' 7 ag];exact cf
  rw[fF];simp only[go_sem,sG];refine jo (b:=7) (cs:=bx h) (args2:=[mag h]) (rU h aa) U ⟨0,_,_,ec.2 rfl⟩ (.cons (rB (l:=h) U (by rw[af.aK,ao rfl]) ca) .nil) ?_;simp only[go_sem,a7];have T:(J.set 7 .none).get 6=.cells (bx M) 0:=by rw[af.aK,aj ag];exact bj
  refine jo (b:=6) (cs:=bx M) (args2:=[mag (shr s l)]) (rU (shr s l) (by rw[s6];omega)) T ⟨0,_,_,ec.2 rfl⟩ (.cons (ahH (l:=shr s l) T (by rw[af.aK,ao rfl]) (s6 s l) bb) .nil) ?_;simp only[go_sem];have da:az l:=by rw[hl];exact yg (ap.take _)
  rw[pU db,pU (vW f da),x3 f,cp,hQ,hR];exact k _ _ _ (.same _) (.same _)
theorem aq5(x y:Int):(if(!(decide (x<0)==decide (y<0)))=true then-((x.natAbs/y.natAbs:Nat):Int)else((x.natAbs/y.natAbs:Nat):Int))=x.tdiv y:=by
 cases x with
 |ofNat a=>cases y with
  |ofNat b=>
   have c:¬(Int.ofNat a<0):=aE;have d:¬(Int.ofNat b<0):=aE;simp only[c,d,decide_false,JF,Gy,iM,↓reduceIte];rfl
  |negSucc b=>
   have c:¬(Int.ofNat a<0):=aE;have d:(Int.negSucc b<0):=Int.negSucc_lt_zero b;simp only[c,d,decide_false,decide_true,JG,nf,↓reduceIte];rfl
 |negSucc a=>cases y with
  |ofNat b=>
   have c:(Int.negSucc a<0):=Int.negSucc_lt_zero a;have d:¬(Int.ofNat b<0):=aE;simp only[c,d,decide_false,decide_true,JH,nf,↓reduceIte];rfl
  |negSucc b=>
   have c:(Int.negSucc a<0):=Int.negSucc_lt_zero a;have d:(Int.negSucc b<0):=Int.negSucc_lt_zero b;simp only[c,d,decide_true,JI,Gy,iM,↓reduceIte];rfl
theorem ara(x y:Int):(if decide (x<0)=true then-((x.natAbs%y.natAbs:Nat):Int)else((x.natAbs%y.natAbs:Nat):Int))=x.tmod y:=by
 cases x with
 |ofNat a=>
  have b:¬(Int.ofNat a<0):=aE;simp only[b,decide_false,iM,↓reduceIte];cases y<;>rfl
 |negSucc a=>
  have b:(Int.negSucc a<0):=Int.negSucc_lt_zero a;simp only[b,decide_true,↓reduceIte];cases y<;>rfl
theorem Qu(x y:Int)(d:y≠0)(b:ey x.natAbs)(c:ey y.natAbs):aS 85 [cq x,cq y] (.aA [cq (x.tdiv y),cq (x.tmod y)]):=by
 have e:=b.len;have f:=c.len;refine cM (.cons (jz _) (.cons (jz _) .nil)) (.aA (.cons (jz _) (.cons (jz _) .nil))) (aT alX ?_);have a:=Nh x.natAbs y.natAbs aa aa aa;simp only[go_sem,d85,aft,afs,cq,ei];refine use a ?_;simp only[go_sem];refine use (qE _ _) ?_;simp only[go_sem,true_and];refine use (qE _ _) ?_;simp only[go_sem,cq,ei];rw[aq5,ara]
theorem ahT(x y:Int)(q:ey x.natAbs)(r:ey y.natAbs):aS 83 [cq x,cq y] (cq (cu x.natAbs y.natAbs)):=by
 have s:=q.len;have t:=r.len;refine cM (.cons (jz _) (.cons (jz _) .nil)) (jz _) (aT alV ?_);simp only[go_sem,d83,afo,afn,afm,cq,ei,true_and]
 refine bK (fun k c f=>∃a b:Nat,rd 5 c=mag (aO a)∧rd 6 c=mag (aO b)∧rd 4 c=.ptr 7 0∧k=b∧cu a b=cu x.natAbs y.natAbs∧(aO a).length≤2000000∧(aO b).length≤2000000∧f.get 7=.cells [aC,.ak] 0) y.natAbs
  ⟨x.natAbs,y.natAbs,?_,?_,?_,rfl,rfl,aa,aa,?_⟩ ?_
 iterate 4 simp only[go_sem]
 rintro k c f ⟨a,b,h,d,g,rfl,m,p,e,j⟩;simp only[afl,afk,afj];by_cases l:k=0
 ·subst l;have i:(aO 0).length=0:=by rw[iZ];rfl
  simp(disch:=omega)only[go_sem,d,i,df];simp only[go_sem,h];refine use (qE _ _) ?_;simp only[go_sem,cq,ei,g,j];rw[←m,Nat.gcd_zero_right];rfl
 ·have i:0<(aO k).length:=(sB k).2 l;have o:=Nh a k aa p e;simp(disch:=omega)only[go_sem,h,d,dt];refine use o ?_;simp only[go_sem,d];have n:a%k<k:=eX _ aa;refine⟨a%k,n,k,a%k,?_,?_,?_,rfl,?_,e,cH (BU (hO n)) e,j⟩
  iterate 3 simp only[go_sem,g]
  ·rw[←m,qf a k,Nat.gcd_rec k a,qf]
section
open Go.au Go.Proofs.Tryz
set_option maxRecDepth 100000
attribute [local irreducible] rd kc ex bF bC re rg mv bN pick alloc box bi bs ba be bq st fa b6 cF cZ cQ c9 dO dN ms cY dF dD dn mx mn dm ap dy cw dr dw bY dx ext dJ neg Go.au.not dG dB dI dH dM dK dz dL dc c_ u8
def w4:=ai 22 f22 0
def w5:=ai 22 f22 1
def w6:=ai 22 f22 2
def LC:=ai 22 f22 3
def d22:=aU 22 f22
def OS:=aR f22 22
def ado:=ai 35 f35 0
def adp:=ai 35 f35 1
def adq:=ai 35 f35 2
def adr:=ai 35 f35 3
def Mr:=ai 35 f35 4
def d35:=aU 35 f35
def aln:=aR f35 35
def adM:=ai 37 f37 0
def E2:=ai 37 f37 1
def d37:=aU 37 f37
def aly:=aR f37 37
def adN:=ai 38 f38 0
def E3:=ai 38 f38 1
def d38:=aU 38 f38
def alz:=aR f38 38
def adO:=ai 39 f39 0
def d39:=aU 39 f39
def alA:=aR f39 39
def adP:=ai 40 f40 0
def d40:=aU 40 f40
def alB:=aR f40 40
def adS:=ai 44 f44 0
def ML:=ai 44 f44 1
def adT:=ai 44 f44 2
def MM:=ai 44 f44 3
def MN:=ai 44 f44 4
def adU:=ai 44 f44 5
def MO:=ai 44 f44 6
def adV:=ai 44 f44 7
def adW:=ai 44 f44 8
def adX:=ai 44 f44 9
def E4:=ai 44 f44 10
def E5:=ai 44 f44 11
def E6:=ai 44 f44 12
def d44:=aU 44 f44
def alD:=aR f44 44
def aeS:=ai 63 f63 0
def d63:=aU 63 f63
def alO:=aR f63 63
def aeU:=ai 65 f65 0
def d65:=aU 65 f65
def alQ:=aR f65 65
def ae1:=ai 68 f68 0
def ae2:=ai 68 f68 1
def ae9:=ai 68 f68 2
def ae_:=ai 68 f68 3
def ae':=ai 68 f68 4
def E7:=ai 68 f68 5
def afa:=ai 68 f68 6
def afb:=ai 68 f68 7
def afc:=ai 68 f68 8
def afd:=ai 68 f68 9
def ae3:=ai 68 f68 10
def ae4:=ai 68 f68 11
def ae5:=ai 68 f68 12
def ae6:=ai 68 f68 13
def ae7:=ai 68 f68 14
def ae8:=ai 68 f68 15
def MV:=ai 68 f68 16
def d68:=aU 68 f68
def alS:=aR f68 68
def afx:=ai 95 f95 0
def Fc:=ai 95 f95 1
def afy:=ai 95 f95 2
def afz:=ai 95 f95 3
def afA:=ai 95 f95 4
def afB:=ai 95 f95 5
def afC:=ai 95 f95 6
def afD:=ai 95 f95 7
def afE:=ai 95 f95 8
def afF:=ai 95 f95 9
def d95:=aU 95 f95
def al2:=aR f95 95
end
end Go.Proofs.YtddhncjmaahodaaGreatDoor
namespace Go.aD
def dd(q:Rat):Nat:=if q.den=1 then 0 else q.den
variable{a:Nat}
theorem zq(n:Int)(b:a≠0):(mkRat n a).num=n.tdiv (cu n.natAbs a:Nat):=by
 rw[←Rat.normalize_eq_mkRat b,Rat.normalize_eq];exact(Int.tdiv_eq_ediv_of_dvd (Int.ofNat_dvd_left.2 (Nat.gcd_dvd_left _ _))).symm
theorem Gn(n:Int)(b:a≠0):(mkRat n a).den=a/cu n.natAbs a:=by
 rw[←Rat.normalize_eq_mkRat b,Rat.normalize_eq]
theorem mk_one{n:Int}(c:a≠0)(b:cu n.natAbs a=1):(mkRat n a).num=n∧(mkRat n a).den=a:=by
 simp_all [zq,Gn,Int.tdiv_one,qe]
theorem AA(p q:Rat):p+q=mkRat (p.num*q.den+q.num*p.den) (p.den*q.den):=by
 rw[Rat.add_def,Rat.normalize_eq_mkRat]
theorem Gq(p q:Rat):p*q=mkRat (p.num*q.num) (p.den*q.den):=by
 rw[Rat.mul_def,Rat.normalize_eq_mkRat]
variable{w:Rat}
theorem add_one{q:Rat}(a:w.den=1)(b:q.den=1):(w+q).num=w.num+q.num∧(w+q).den=1:=by
 simp_all [AA,mk_one]
theorem mul_one{q:Rat}(a:w.den=1)(b:q.den=1):(w*q).num=w.num*q.num∧(w*q).den=1:=by
 simp_all [Gq,mk_one]
structure bg (k:Nat) (q:Rat):Prop where
 num:q.num.natAbs<2^k
 den:q.den<2^k
theorem mk_le(n:Int){m:Nat}(a:m≠0):(mkRat n m).num.natAbs≤n.natAbs∧(mkRat n m).den≤m:=by
 rw[zq _ a,Gn _ a,Int.natAbs_tdiv];exact⟨ju _ _,ju _ _⟩
variable{u:Nat}{L:Nat}
theorem uf{a y:Nat}(b:L<2^a)(c:y<2^u):L*y<2^(a+u):=by
 rw[gG];rcases r_ y with h|h
 ·simp_all;omega
 ·exact eF (og b h) (fE _ (hO c))
theorem zK{n a m b c k:Nat}(h:n<a^m)(d:a≤b^c)(f:c*m≤k)(e:0<b):n<b^k:=
 eF h (cH (wH d m) (by rw[←Nat.pow_mul];exact gw e f))
theorem aor{n a m b c k:Nat}(h:n<b^k)(e:k≤c*m)(f:b^c≤a)(d:0<b):n<a^m:=
 eF h (cH (gw d e) (by simp_all [Nat.pow_mul,wH]))
theorem Cj{k:Nat}(h:0<k):bg k 0:=⟨Nat.two_pow_pos k,Nat.one_lt_two_pow aa⟩
variable{h:Nat}
theorem bg.mono{a:Nat}(b:bg a w)(c:a≤h):bg h w:=
 ⟨eF b.num (gw ag c),eF b.den (gw ag c)⟩
theorem bg.add{a:Nat}{q:Rat}(b:bg a w)(c:bg h q):bg (a+h+1) (w+q):=by
 have f:w.den*q.den≠0:=uV w.den_nz q.den_nz;rw[AA];obtain⟨g,i⟩:=mk_le (w.num*q.den+q.num*w.den) f;have j:=uf b.num c.den;have d:=uf c.num b.den;have k:=uf b.den c.den;have l:(w.num*(q.den:Int)+q.num*(w.den:Int)).natAbs≤w.num.natAbs*q.den+q.num.natAbs*w.den:=by
  refine cH (Int.natAbs_add_le _ _) ?_;rw[oO,oO];exact aF _
 have e:2^(h+a)=2^(a+h):=by rw[js]
 rw[e]at d;refine⟨?_,?_⟩
 ·omega
 omega
theorem bg.mul{a:Nat}{q:Rat}(c:bg a w)(d:bg h q):bg (a+h) (w*q):=by
 have i:w.den*q.den≠0:=uV w.den_nz q.den_nz;rw[Gq];obtain⟨b,e⟩:=mk_le (w.num*q.num) i;have f:=uf c.num d.num;have g:=uf c.den d.den;rw[oO]at b;exact⟨e_ b f,e_ e g⟩
theorem bg.neg{a:Nat}(b:bg a w):bg a (-w):=by
 refine⟨?_,?_⟩
 ·rw[Rat.neg_num,mY];exact b.num
 ·rw[Rat.neg_den];exact b.den
theorem bg.sub{a:Nat}{q:Rat}(b:bg a w)(c:bg h q):bg (a+h+1) (w-q):=by
 rw[Rat.sub_eq_add_neg];exact b.add c.neg
variable{s:Int}
theorem bg.ofInt(h:s.natAbs<2^a)(b:0<a):bg a (s:Rat):=
 ⟨h,by simp_all;omega⟩
end Go.aD
namespace Go.Proofs.YtddhncjmaahodaaGreatDoor
open Go.au Go.aD
def bk(q:Rat):List V:=[.bool (decide (q.num<0)),mag (aO q.num.natAbs),aC,mag (aO (dd q))]
def bz(q:Rat):V:=.agg (bk q)
theorem vp(q:Rat):bX (bk q):=.cons (.bool _) (.cons (j4 _) (.cons (.bool _) (.cons (j4 _) .nil)))
theorem fT(q:Rat):bA (bz q):=.agg (vp q)
variable{a:Nat}
theorem ey.of{k:Nat}(h:a<2^k)(b:k≤30000000):ey a:=by
 exact @Go.aD.aor a 4294967296 1000000 2 32 k h (cH b ag) ag ag
variable{w:Rat}
theorem ng(h:w.den=1):dd w=0:=ao h
theorem jM{q:Rat}(h:q.den≠1):dd q=q.den:=aj h
theorem Gs(n:Nat):cq (n:Int)=.agg [aC,mag (aO n)]:=by
 unfold cq ei;rw[show decide (((n:Nat):Int)<0)=false from a_ aa];rfl
theorem sQ:(aO 0).length=0:=by rw[iZ];rfl
theorem sP(h:a≠0):0<(aO a).length:=(sB a).2 h
theorem w9(q:Rat):aS 90 [bz q] (cq q.den):=by
 refine cM (.cons (fT _) .nil) (jz _) (aT al0 ?_);by_cases h:q.den=1
 ·have a:=ng h;simp(disch:=omega)only[go_sem,d90,M6,M5,bz,bk,a,sQ,dt];refine use (tV 1 ag) ?_;simp only[go_sem,cq,ei];rw[h];rfl
 ·have a:=jM h;have:=sP q.den_nz;simp(disch:=omega)only[go_sem,d90,M6,M5,bz,bk,a,df];rw[Gs]
theorem zU(q:Rat):aS 91 [bz q] (ah (if q.num<0 then-1 else if q.num=0 then 0 else 1)):=by
 refine cM (.cons (fT _) .nil) (.int _ _) (aT al1 ?_);simp(disch:=omega)only[go_sem,d91,afw,bz,bk];refine use (Rx q.num) ?_;simp only[go_sem]
theorem Q7(q:Rat):aS 63 [bz q] (bz (-q)):=by
 refine cM (.cons (fT _) .nil) (fT _) (aT alO ?_);simp(disch:=omega)only[go_sem,d63,aeS,bz,bk];refine use (Gv q.num) ?_;simp only[go_sem,cq,ei,true_and];rw[Rat.neg_num];unfold dd;rw[Rat.neg_den]
variable{c:af}
theorem Oi(a:w.den=1):∃v,bO c (af.zero c.next) (.agg [.bool (decide (w.num<0)),mag (aO w.num.natAbs),aC,.ak]) v∧bA v∧v=bz w:=
 ⟨_,.agg (.cons (.same _) (.cons (.same _) (.cons (.same _) (.cons .fL .nil)))),by
   have e:V.row 0 []=mag (aO (dd w)):=by rw[ng a,iZ];rfl
   rw[e];exact⟨fT w,rfl⟩⟩
variable{s:Int}
theorem FR(b:w.num=s)(a:w.den=1):∃v,bO c (af.zero c.next) (.agg [.bool (decide (s<0)),mag (aO s.natAbs),aC,.ak]) v∧bA v∧v=bz w:=by
 subst b;exact Oi a
variable{b:List V}{r:V}
theorem fK(d:bX b)(h:c5 a b (af.zero 5) fun e c=>∃v,bO c (af.zero c.next) e v∧bA v∧v=r):aS a b r:=
 pI (R:=fun v=>v=r) d h
theorem iG{v:V}(h:v=r)(a:bA r):∃u,bO c (af.zero c.next) v u∧bA u∧u=r:=⟨v,.same v,by rw[h];exact a,h⟩
theorem zO(n:Int)(h: -9223372036854775808≤n∧n<9223372036854775808):aS 65 [ah n] (bz (n:Rat)):=by
 refine fK (.cons (.int _ _) .nil) (aT alQ ?_);simp only[go_sem,d65,aeU];refine use (tV n h) ?_;simp only[go_sem,cq,ei];exact FR rfl rfl
theorem Oc(q:Rat)(j:ey q.den)(F:Fr)(H:af)(e:rd 2 F=.ptr 5 0)(c:rd 3 F=.ptr 6 0)(f:rd 4 F=.ptr 7 0)(b:H.get 5=.cells (ei q.num) 0)(a:H.get 6=.cells (ei q.den) 0)(bh:H.get 7=.cells [aC,.ak,aC,.ak] 0):
 bw (pc 35 1) (fu [.cell 4 true 4] fun k d=>∃v,bO d (af.zero d.next) k v∧bA v∧v=bz q) F H:=by
 unfold ei at b a;have i:=JL (q.den:Int) j;have g:decide (((pD ((q.den:Nat):Int).natAbs:Nat):Int)=1)=decide (q.den=1):=decide_eq_decide.2 (by
  rw[d_];have:=PM (n:=q.den);omega)
 simp only[go_sem,adp,ado,c,a];refine use i ?_;by_cases h:q.den=1
 ·simp(disch:=assumption)only[go_sem,g,dt,e,c,f,b,a,bh];exact Oi h
 ·simp(disch:=assumption)only[go_sem,g,df,e,c,f,b,a,bh];refine iG ?_ (fT q);unfold bz bk;rw[jM h,show decide (((q.den:Nat):Int)<0)=false from a_ aa,d_]
theorem Od(n d:Int)(J:0<d)(z:ey n.natAbs)(l:ey d.natAbs)(F:Fr)(H:af)(b:rd 2 F=.ptr 5 0)(f:rd 3 F=.ptr 6 0)(s:rd 4 F=.ptr 7 0)(a:H.next=8)(c:H.get 5=.cells (ei n) 0)(e:H.get 6=.cells (ei d) 0)(bh:H.get 7=.cells [aC,.ak,aC,.ak] 0):
 bw (pc 35 3) (fu [.cell 4 true 4] fun I q=>∃v,bO q (af.zero q.next) I v∧bA v∧v=bz (mkRat n d.natAbs)) F H:=by
 have p:d.natAbs≠0:=aa;have E:0<cu n.natAbs d.natAbs:=Nat.gcd_pos_of_pos_right _ aa;have x:cu n.natAbs d.natAbs≤d.natAbs:=Nat.gcd_le_right _ aa;have m:ey (cu n.natAbs d.natAbs):=e_ x l;have A:ey (mkRat n d.natAbs).den:=e_ (mk_le n p).2 l;have i:=zq n p;have j:=Gn n p;have w:((d.natAbs/cu n.natAbs d.natAbs:Nat):Int)=d.tdiv (cu n.natAbs d.natAbs:Nat):=by
  obtain⟨k,rfl⟩:∃k:Nat,d=k:=⟨d.natAbs,aa⟩;rfl
 have t:=ahT n d z l;have o:=JL (cu n.natAbs d.natAbs:Nat) (by rw[d_];exact m);obtain⟨g,D⟩:∃g,g=cu n.natAbs d.natAbs:=⟨_,rfl⟩;rw[←D]at E x m i j w t o;rw[d_]at o;have u:decide (1<((pD g:Nat):Int))=decide (1<g):=decide_eq_decide.2 (by
  have r:=PM (n:=g);have b:=ano (n:=g);omega)
 have G:=Qu n (g:Int) aa z (by rw[d_];exact m);have y:=Qu d (g:Int) aa l (by rw[d_];exact m);rw[←w]at y;have B:=c;have C:=e;unfold ei at c e;simp only[go_sem,adr,adq,b,f,c,e];refine use t ?_;simp only[go_sem,cq,ei,a];refine use o ?_;by_cases h:1<g
 ·simp(disch:=assumption)only[go_sem,u,dt,b,a,c];refine use G ?_;simp(disch:=assumption)only[go_sem,cq,ei,b,f,a,c,e];refine use y ?_;simp(disch:=assumption)only[go_sem,cq,ei,f,a,e];refine Oc _ A _ _ ?_ ?_ ?_ ?_ ?_ ?_
  iterate 3 simp only[go_sem,b,f,s]
  ·rw[i];simp only[go_sem,ei]
  ·rw[j];simp only[go_sem,ei]
  ·simp only[go_sem,bh,a]
 ·have r:g=1:=aa;subst r;rw[show((1:Nat):Int)=1 from rfl,Int.tdiv_one]at i;rw[qe]at j;simp(disch:=assumption)only[go_sem,u,df];refine Oc _ A _ _ ?_ ?_ ?_ ?_ ?_ ?_
  iterate 3 simp only[go_sem,b,f,s]
  ·rw[i];simp only[go_sem,B,a]
  ·rw[j,(aa:((d.natAbs:Nat):Int)=d)];simp only[go_sem,C,a]
  ·simp only[go_sem,bh,a]
theorem xp(n d:Int)(f:d≠0)(c:ey n.natAbs)(b:ey d.natAbs):aS 35 [cq n,cq d] (bz (nM n d)):=by
 refine fK (.cons (jz _) (.cons (jz _) .nil)) (aT aln ?_);by_cases h:d<0
 ·have e:nM n d=mkRat (-n) (-d).natAbs:=by
   obtain⟨k,rfl⟩:∃k:Nat,d= -(k:Int):=⟨d.natAbs,aa⟩;rw[←Rat.neg_divInt_neg,Int.neg_neg,uZ];simp
  simp(disch:=assumption)only[go_sem,d35,Mr,cq,ei,dt];refine use (Gv n) ?_;simp(disch:=assumption)only[go_sem,cq,ei,true_and];have a:=Gv d;simp only[cq,ei,bm h]at a;refine use a ?_;simp(disch:=assumption)only[go_sem];rw[e];refine Od (-n) (-d) aa (by rw[mY];exact c) (by rw[mY];exact b) _ _ ?_ ?_ ?_ rfl ?_ ?_ ?_
  all_goals simp only[go_sem,ei]
 ·have e:nM n d=mkRat n d.natAbs:=by
   obtain⟨k,rfl⟩:∃k:Nat,d=(k:Int):=⟨d.natAbs,aa⟩;rw[uZ];simp
  simp(disch:=assumption)only[go_sem,d35,Mr,cq,ei,df];rw[e];refine Od n d aa c b _ _ ?_ ?_ ?_ rfl ?_ ?_ ?_
  all_goals simp only[go_sem,ei,a_ h]
end Go.Proofs.YtddhncjmaahodaaGreatDoor
