/- Towards the law TreeRegions: lemmas on the evaluator of the model's code, plain laws of numbers, walks of the program's functions, the card. No conditions. -/
import Derived.Test.YtddhncjmaahodaaGreatDoorE0
import Derived.RangeFuncRecord
import Derived.Scope
import Derived.Attr
import Derived.Test.YtddhncjmaahodaaGreatDoorProg
import Derived.KernelRfl
set_option linter.all false
noncomputable section
open Array renaming getElem?_eq_some_iff→uX,getElem?_push→uY,replicate→qx
open Bool renaming and_eq_true→cz,eq_false_iff→mB,false_eq_true→kj,or_eq_true→pE
open Classical renaming byContradiction→m6,choose_spec→uZ
open Go.IntKind renaming bits→oy,signed→oz,wrap→qC
open Go.Proofs.Tryz renaming prog→eW
open Go.Result renaming andThen_ok→dS
open Go.Sem renaming run_bind→c8,run_pure→fC
open Int renaming natAbs_mul→nH,natAbs_natCast→cV,natAbs_neg→lO,natCast_mul→e7,tdiv→kq,tmod→lP,toNat_natCast→bN
open List renaming append_assoc→eG,cons_append→fm,drop_eq_getElem_cons→kr,drop_of_length_le→i_,eq_nil_of_length_eq_zero→nI,getD_eq_getElem?_getD→c_,getElem?_append_left→k3,getElem?_drop→pJ,getElem?_eq_getElem→cH,getElem?_eq_none→m9,getElem?_eq_some_iff→fo,getElem?_take_of_lt→u9,getElem_mem→u_,length_append→bt,length_cons→di,length_drop→gF,length_nil→lR,length_pos_iff→vb,length_set→ku,length_singleton→gm,length_take_of_le→gK,length_take→ep,length→jD,mem_append→gU,mem_cons→gL,mem_filter→nJ,mem_map→nc,mem_of_getElem?→er,mem_of_mem_take→ve,mem_singleton→dH,nil_append→eM,pairwise_cons→rM,replicate_succ→oA,replicate_zero→oB,replicate→br,take_append_drop→oC,take_of_length_le→cq,take_succ_eq_append_getElem→jZ
open Nat renaming add_assoc→jq,add_comm→iy,add_mul→cZ,add_sub_cancel→pL,add_zero→cO,add→fW,beq→bK,ble→b8,div_add_mod→iN,div_eq_of_lt→lT,div_le_self→g7,div_lt_iff_lt_mul→pM,div_lt_of_lt_mul→s9,div_mul_le_self→vg,div_one→nM,eq_zero_or_pos→qH,gcd_comm→oF,gcd→cx,le_div_iff_mul_le→rO,le_of_lt→hD,le_of_not_lt→ja,le_refl→aR,le_trans→cI,lt_of_le_of_lt→eH,lt_of_lt_of_le→ei,lt_of_mul_lt_mul_right→rP,lt_of_not_le→rQ,lt_or_ge→k4,lt_succ_self→lU,lt_trans→oG,mod_eq_of_lt→jr,mod_lt→eK,mul_add→bU,mul_assoc→cg,mul_comm→b3,mul_div_cancel→td,mul_le_mul_left→fc,mul_le_mul_right→dz,mul_le_mul→jO,mul_left_comm→k5,mul_lt_mul_of_pos_right→ng,mul_mod_mul_right→qJ,mul_ne_zero→tf,mul_one→dQ,mul_right_comm→rR,mul_zero→fe,mul→dW,not_lt_zero→pN,one_mul→fM,pos_of_ne_zero→jP,pow_add→fX,pow_le_pow_left→vh,pow_le_pow_right→fN,pow_pos→e8,pow_succ→c3,pow_zero→mF,reduceEqDiff→kz,strongRecOn→jb,sub→iz,succ_mul→pO,succ_pos→nh,zero_add→fB,zero_le→ck,zero_mul→jE
open Option renaming none→aW
open Rat renaming divInt_ofNat→tj
open UInt8 renaming ofNat→gG
namespace Go.aE
section
variable {P:Program}{N:eF}{T:cE}{G:Nat}{cf:jl}{ops:Array Oper}
variable{n:aO}{o:Fr}{m:Bool}
theorem arL{a:Act}(i:∀c∈ops.toList,JH a.tmps.size c.dst=true)(c:Oper)(l:∀t,reads ops.toList c t=true→t<a.tmps.size→aS n (o.get V.undef t) (a.tmps.getD t undef))(q:kZ ops.toList c.guard o=some m):
 Region.wanted c (yielded ops a.tmps)=m:=by
 refine adl (φ:=n) c q (fun j b t h d=>?_);have p:reads ops.toList c t=true:=by
  unfold reads;rw[pE,h];exact .inr (by simp only[d];exact uE.2 rfl)
 obtain⟨r,e,k⟩:=aD.1 (show av (eu ops.toList j) (fun c=>c.dst)=some t from d);rw[iW]at e;have f:=i r (er e);rw[k]at f;have g:t<a.tmps.size:=(eN _ _).1 f;exact⟨g,l t p g⟩
def hO(listed:Array Bool)(i:Nat):Prop:=listed.getD i false=true
def Out(N:eF)(T:cE)(ops:Array Oper)(r:List Info)(listed:Array Bool)(x:Info):Prop:=
 x∈dn N T ops.toList∧x.gH=false∧pS ops.toList x r∧¬hO listed x.ix
structure m7 (N:eF) (T:cE) (G:Nat) (ops:Array Oper) (jK:aO) (H0:ag) (w0:World) (done r:List Info) (F:Fr) (H:ag) (listed:Array Bool) (a:Act) (w:World) (φ:aO):Prop where
 split:(dn N T ops.toList).filter (fun i=>i.gH)=done++r
 size:listed.size=ops.size
 closed:C3 ops.toList (hO listed)
 gb:∀e∈done++r,(hO listed e.ix↔e∈done)
 ne:∀x∈dn N T ops.toList,x.gH=false→hO listed x.ix→pS ops.toList x r
 ext:Ext jK H0 w0 φ H w
 Bz:kn G φ
 tmps:∀t,t<a.tmps.size→(∀x,Out N T ops r listed x→x.o.dst≠some t)→aS φ (F.get V.undef t) (a.tmps.getD t undef)
 yC:∀x,Out N T ops r listed x→j0 N T ops.toList H0.next x.o F H φ
 It:zj N T ops.toList (fun o=>∃x,Out N T ops r listed x∧o=x.o) F
variable{g:Nat}{z:Nat}
theorem vf{listed:Array Bool}(b:g<listed.size):hO (listed.setIfInBounds g true) z↔z=g∨hO listed z:=by
 unfold hO;by_cases h:g=z
 ·subst h;simp[b]
 ·have a:¬z=g:=fun e=>h e.symm
  simp[Array.getElem?_setIfInBounds_ne h,a]
theorem vk{r:List Info}{listed:Array Bool}(f:g<listed.size){x:Info}:Out N T ops r (listed.setIfInBounds g true) x↔Out N T ops r listed x∧x.ix≠g:=by
 unfold Out;rw[vf f];constructor
 ·rintro⟨b,c,d,a⟩;exact⟨⟨b,c,d,fun h=>a (.inr h)⟩,fun h=>a (.inl h)⟩
 ·rintro⟨⟨b,c,d,a⟩,e⟩;exact⟨b,c,d,fun h=>h.elim e a⟩
variable {jK:aO}{H0:ag}{w0:World}{done r:List Info}{F:Fr}{H:ag}{listed:Array Bool}{a:Act}{w:World}{φ:aO}
theorem Mi(e:Edge):Region.binds .any e=jQ e:=by
 unfold Region.binds jQ;cases e.ground<;>rfl
theorem abX(h:g∈Region.ready .any ops listed):∃o,ops[g]? =some o∧ops.toList[g]? =some o∧¬hO listed g∧g<listed.size∧∀e∈o.after.toList,jQ e=true→hO listed e.on:=by
 obtain⟨a,o,c,d⟩:=mem_ready.1 h;have b:g<listed.size:=by
  rcases k4 g listed.size with h'|h'
  ·exact h'
  ·simp[Array.getElem?_eq_none h']at a
 refine⟨o,c,by simpa using c,?_,b,fun e i f=>?_⟩
 ·unfold hO;simp[b]at a;simp[b,a]
 ·exact d e (by simpa using i) (by rw[Mi];exact f)
variable{Y:Oper}
theorem YA(f:m7 N T G ops jK H0 w0 done r F H listed a w φ)(i:ops.toList[g]? =some Y)(h:g<listed.size)(k:∀e∈Y.after.toList,jQ e=true→hO listed e.on):C3 ops.toList (hO (listed.setIfInBounds g true)):=by
 intro j l hj b e d c;rw[vf h]at hj⊢;rcases hj with rfl|hj
 ·rw[i]at b;cases b;exact .inr (k e d c)
 ·exact .inr (f.closed j l hj b e d c)
variable{q:World}
theorem agf(b:m7 N T G ops jK H0 w0 done r F H listed a w φ){x:Info}(O:Out N T ops r listed x)(L:x.o.dst=some g)(d:x.ix<listed.size)
 (K:∀e∈x.o.after.toList,jQ e=true→hO listed e.on) {B:Value} (C:Ext jK H0 w0 n H q) (z:φ.le n) (M:aS n (F.get V.undef g) B)
 (J:∀y,Out N T ops r listed y→y.ix≠x.ix→j0 N T ops.toList H0.next y.o F H n):
 m7 N T G ops jK H0 w0 done r F H (listed.setIfInBounds x.ix true) (a.put (some g) B) q n:=by
 obtain⟨f,P,Q,Z⟩:=O;obtain⟨i,ab,D,R⟩:=oK.1 f;have I:ops.toList[x.ix]? =some x.o:=by rw[R];exact D
 refine⟨b.split,by simp[b.size],YA b I d K,?_,?_,C,b.Bz.mono z,?_,?_,?_⟩
 ·intro e j;rw[vf d,←b.gb e j];constructor
  ·rintro(h|h)
   ·have k:e∈dn N T ops.toList∧e.gH=true:=by
     rw[←b.split]at j;exact nJ.1 j
    have:=pW k.1 f h;rw[this,P]at k;cases k.2
   ·exact h
  ·exact .inr
 ·intro y c S v;rw[vf d]at v;rcases v with h|h
  ·rw[pW c f h];exact Q
  ·exact b.ne y c S h
 ·intro s l E;rw[yG]at l;by_cases m:g=s
  ·subst m;simpa [Act.put,l]using M
  ·have:=b.tmps s l (fun y c p=>by
    by_cases A:y.ix=x.ix
    ·rw[pW c.1 f A,L]at p;exact m (Option.some.inj p)
    ·exact E y ((vk d).2 ⟨c,A⟩) p)
   have:=this.mono z;simpa [Act.put,Array.getElem?_setIfInBounds_ne m]using this
 ·intro y c;rw[vk d]at c;exact J y c.1 c.2
 ·rintro o1 o2 ⟨X,t,rfl⟩ ⟨Y,u,rfl⟩ id U W;rw[vk d]at t u;exact b.It _ _ ⟨X,t.1,rfl⟩ ⟨Y,u.1,rfl⟩ id U W
end
section
variable {P:Program}{N:eF}{T:cE}{G:Nat}{cf:jl}{ops:Array Oper}{ro:Option Nat}{nn:Nat}
variable {jK:aO}{H0:ag}{w0:World}{done r:List Info}{F:Fr}{H:ag}{listed:Array Bool}{a:Act}{w:World}{φ:aO}
variable{g:Nat}
theorem abV(p:lg ops.toList 0=true)(u:rC ops.toList (dn N T ops.toList)=true)(d:m7 N T G ops jK H0 w0 done r F H listed a w φ){x:Info}(b:x∈dn N T ops.toList)
 (s:∀e∈x.o.after.toList,jQ e=true→hO listed e.on) (j:reads ops.toList x.o g=true) (t:g<a.tmps.size):aS φ (F.get V.undef g) (a.tmps.getD g undef):=by
 refine d.tmps g t (fun y z B=>?_);obtain⟨k,l,C,A⟩:=z;obtain⟨m,n⟩:=(pq u k).2 g B;have c:reads ops.toList y.o g=false:=m.resolve_left (by rw[l];simp);obtain⟨i,D,q,v⟩:=oK.1 b;rcases n x b with h|h|h|h
 ·rw[←pW b k h,j]at c;cases c
 ·unfold kh at h;rw[j]at h;simp at h
 ·refine A (Ii p d.closed (fun E f=>?_) h);have:ops.toList[x.ix]? =some x.o:=by rw[v];exact q
  rw[this]at f;cases f;exact s
 ·rw[l]at h;cases h.1
theorem abi(l:lg ops.toList 0=true)(q:rC ops.toList (dn N T ops.toList)=true)(n:∀c∈ops.toList,mh G a.tmps.size c=true)(d:m7 N T G ops jK H0 w0 done r F H listed a w φ){x:Info}(k:x∈dn N T ops.toList)
 (p:∀e∈x.o.after.toList,jQ e=true→hO listed e.on):jc φ F a.eval x.o.op.operands.toList∧(∀ {z:Bool},kZ ops.toList x.o.guard F=some z→Region.wanted x.o (yielded ops a.tmps)=z):=by
 obtain⟨i,c,D,J⟩:=oK.1 k;have E:x.o∈ops.toList:=by rw[J];exact er D
 have j:=n x.o E;unfold mh at j;rw[cz]at j;constructor
 ·intro y s f b;have m:=JL (sw.1 j.2 y s);cases y with
  |tmp t=>
   cases b;exact abV l q d k p (abW s) m
  |const v=>
   obtain⟨u,I,b⟩:=aD.1 (show av (m0 20 v) (fun y=>some (fun _=>y))=some f from b);cases b;exact CM φ _ _ _ I
  |global g=>
   cases b;obtain⟨K,e⟩:=d.Bz g m;exact .ptr e
  |func A=>cases b;exact .func A .nil .nil
 ·exact fun h=>arL (fun c h=>by have:=n c h;unfold mh at this;rw[cz]at this;exact this.1) x.o (fun t B C=>abV l q d k p B C) h
variable{Y:Oper}{Q:Loc}
theorem j0.add{c:List Oper}{B:Nat}{id:Nat}(b:j0 N T c B Y F H φ)(u:∀a,qK N T c Y F a→a≠id):j0 N T c B Y F H (φ.add id Q):=by
 obtain⟨t,k,b⟩:=b;refine⟨t,k,?_⟩;rcases b with h|⟨e,m,g,q,f,i,n⟩|h
 ·exact .inl h
 ·refine .inr (.inl ⟨e,m,g,q,f,i,?_⟩);rcases n with h|⟨d,l,a,rfl,j,o,p,r,s⟩
  ·exact .inl h
  ·refine .inr ⟨d,l,a,rfl,j,o,?_,r,s⟩;rw[aO.add_get];rw[au (u a ⟨t,m,g,d,l,k,e,f,i,j⟩)];exact p
 ·exact .inr (.inr h)
theorem aoi(b:lg ops.toList 0=true)(d:rC ops.toList (dn N T ops.toList)=true){x y:Info}(i:x∈dn N T ops.toList)(j:y∈dn N T ops.toList)(k:x.gH=false)(l:y.gH=false)(h:y.o=x.o)(a:x.o.dst=some g):y.ix=x.ix:=by
 have c:y.o.dst=some g:=by rw[h];exact a
 have m:kh ops.toList x.o g=true:=by unfold kh;rw[uE.2 a];rfl
 have n:kh ops.toList y.o g=true:=by unfold kh;rw[uE.2 c];rfl
 rcases((pq d i).2 g a).2 y j with e|e|e|e
 ·exact e
 ·rw[n]at e;cases e
 ·rcases((pq d j).2 g c).2 x i with f|f|f|f
  ·exact f.symm
  ·rw[m]at f;cases f
  ·have:=pred_lt b e;have:=pred_lt b f;omega
  ·rw[l]at f;cases f.1
 ·rw[k]at e;cases e.1
theorem anS{Q:Exit→Act→World→Prop}(hT:c4 P T)(cA:jo P N)(I:lg ops.toList 0=true)(O:rC ops.toList (dn N T ops.toList)=true)(ae:∀a0∈ops.toList,mh G a.tmps.size a0=true)
 (b:m7 N T G ops jK H0 w0 done r F H listed a w φ) {x:Info} (k:Out N T ops r listed x) (am:ops[x.ix]? =some x.o) (hi:x.ix<listed.size) (M:∀e∈x.o.after.toList,jQ e=true→hO listed e.on) {K:Act→World→Prop}
 (Z:∀s i h,m7 N T G ops jK H0 w0 done r F H (listed.setIfInBounds x.ix true) s i h→s.tmps.size=a.tmps.size→s.defers=a.defers→K s i):wpOpIn (fw ro) nn P ops Q x.ix K a w:=by
 obtain⟨J,D⟩:=abi I O ae b k.1 M;have ar:∀f,a.eval (.func f)=.func (.func f) #[] #[]:=fun f=>rfl
 obtain⟨t,A,hp⟩:=b.yC x k;have z:∀ {h:aO}{i:World}{m:Value},Ext jK H0 w0 h H i→φ.le h→aS h (F.get V.undef t) m→(∀y,Out N T ops r listed y→y.ix≠x.ix→j0 N T ops.toList H0.next y.o F H h)→K (a.put x.o.dst m) i:=by
  intro h i m d c j B;rw[A];exact Z _ _ h (agf b k A hi M d c j B) (yG _ _ _) (put_defers _ _ _)
 have C:∀y,Out N T ops r listed y→y.ix≠x.ix→j0 N T ops.toList H0.next y.o F H φ:=fun y l _=>b.yC y l
 unfold wpOpIn;simp only[am];rcases hp with⟨d,c⟩|⟨d,R,g,q,c,j,B⟩|⟨d,R,g,c,j⟩
 ·rw[D d];simp only[kj,if_false];refine⟨fun _ _=>trivial,?_⟩;exact z b.ext (aO.le_refl _) (by rw[c];exact .aK .nil) C
 ·rw[D d];simp only[if_true];refine⟨fun _ _=>trivial,?_⟩;rw[Oper.semAt_eq _ _ _ (uA (N:=N) (T:=T) (by rw[c];simp))];have L:=aby hT cA ar x.o c J j w;rcases B with⟨v,rfl,u⟩|⟨S,sh,id,rfl,u,W,E,X,Y⟩
  ·obtain⟨m,n,p⟩:=L;rw[n];exact z b.ext (aO.le_refl _) (by rw[u];exact p) C
  ·obtain⟨m,i,a2,n,p,U⟩:=L;rw[n];refine z (ahr b.ext W E X Y p) (aO.um E) (by rw[u];exact U _ _ (aO.rV _ _ _)) (fun y l ap=>?_);refine(b.yC y l).add (fun aw hn he=>ap ?_);subst he;exact aoi I O k.1 l.1 k.2.1 l.2.1 (b.It _ _ ⟨y,l,rfl⟩ ⟨x,k,rfl⟩ aw hn ⟨t,R,g,S,sh,A,d,c,j,u⟩) A
 ·rw[D d];simp only[if_true];refine⟨fun _ _=>trivial,?_⟩;rw[Oper.semAt_eq _ _ _ (uA (N:=N) (T:=T) (by rw[c];simp))];obtain⟨m,n,p⟩:=abT hT b.ext.rel x.o c J j;rw[n];exact z b.ext (aO.le_refl _) p C
end
section
variable {P:Program}{N:eF}{T:cE}{G:Nat}{ops:Array Oper}{ro:Option Nat}{nn:Nat}
variable {jK:aO}{H0:ag}{w0:World}{done r:List Info}{F:Fr}{H:ag}{listed:Array Bool}{a:Act}{w:World}{φ:aO}
def yY(l a:List Info)(r:List Info)(j:Nat):List b_:=match r with
 |[]=>[]
 |e::r=>b_.ex e.s::ez (lmap (fun i=>b_.re i.s) (kB (fun i=>and (!i.gH) (and (v5 i.s.cop) (and (b8 (mL a i.mask) j) (!(ia e.mask i.ix))))) l)) (yT l a r (j+1))
theorem acS(l a r:List Info)(j:Nat):yT l a r j=ez (lmap (fun i=>b_.ex i.s) (mG l a j)) (yY l a r j):=by
 cases r with
 |nil=>rw[iV];show lmap _ _=_++[];simp
 |cons e r=>rfl
variable{f:Fr→ag→Prop}
theorem apm(a:Info→Step):∀ {l:List Info}{F:Fr}{H:ag},fZ P G (lmap (fun i=>b_.re (a i)) l) F H f→f F H∧∀i∈l,uW (a i) F H:=by
 intro l;induction l with
 |nil=>exact fun h=>⟨h,fun i e=>by cases e⟩
 |cons i l g=>
  intro F H h;have b:uW (a i) F H∧fZ P G (lmap (fun i=>b_.re (a i)) l) F H f:=h;obtain⟨c,d⟩:=g b.2;refine⟨c,fun j hj=>?_⟩;rcases gL.1 hj with rfl|hj
  ·exact b.1
  ·exact d j hj
theorem acR:∀ {l:List Info}{F:Fr}{H:ag},(∀i∈l,oW i.s.cop=false)→fZ P G (lmap (fun i=>b_.ex i.s) l) F H f→∃k m,rm o5 (lmap (fun i=>b_.ex i.s) l) F H=some (k,m)∧f k m:=by
 intro l;induction l with
 |nil=>exact fun _ h=>⟨_,_,rfl,h⟩
 |cons i l w=>
  intro F H p h;have q:iP P G i.s F H fun b c=>fZ P G (lmap (fun i=>b_.ex i.s) l) b c f:=h
  have u:∃b c,exec o5 i.s F H=some (b,c)∧fZ P G (lmap (fun i=>b_.ex i.s) l) b c f:=by
   rcases q with⟨n,a⟩|⟨n,a⟩
   ·exact⟨_,_,by unfold exec;rw[n],a⟩
   ·have e:=p i aJ;cases d:i.s.cop with
    |call o g=>rw[d]at e;cases e
    |lF x=>rw[d]at e;cases e
    |gb o g=>rw[d]at e;cases e
    |bad=>rw[d]at a;exact a
    |pu o g=>rw[d]at a;exact a
    |rd o g=>rw[d]at a;exact a
  obtain⟨b,c,n,a⟩:=u;obtain⟨k,m,r,t⟩:=w (fun j v=>p j (by simp[v])) a;exact⟨k,m,aD.2 ⟨(b,c),n,r⟩,t⟩
theorem ag0{Q:Exit→Act→World→Prop}(hT:c4 P T)(cA:jo P N)(J:lg ops.toList 0=true)(S:rC ops.toList (dn N T ops.toList)=true)(a0:(done++r).Pairwise (fun a b=>Pred ops.toList b.ix a.ix))
 (dv:∀al∈ops.toList,mh G a.tmps.size al=true) (n:m7 N T G ops jK H0 w0 done r F H listed a w φ) {x:Info} (D:x∈dn N T ops.toList) (ae:x.gH=true) (dt:¬hO listed x.ix) (cd:ops[x.ix]? =some x.o) (R:x.ix<listed.size)
 (hr:∀e∈x.o.after.toList,jQ e=true→hO listed e.on) (dE:fZ P G (yY (dn N T ops.toList) (done++r) r done.length) F H f) {K:Act→World→Prop}
 (hK:∀a' w' M d O Y,r=x::d→m7 N T G ops jK H0 w0 (done++[x]) d O Y (listed.setIfInBounds x.ix true) a' w' M→fZ P G (yY (dn N T ops.toList) ((done++[x])++d) d (done++[x]).length) O Y f→
   a'.tmps.size=a.tmps.size→a'.defers=a.defers→K a' w'):wpOpIn (fw ro) nn P ops Q x.ix K a w:=by
 obtain⟨ho,hw⟩:=abi J S dv n D hr;have ce:ops.toList[x.ix]? =some x.o:=by simpa using cd
 have ch:x.s=stepOf N T ops.toList x.o∧x.mask=maskAt ops.toList x.ix:=by
  obtain⟨i,al,_,rfl⟩:=oK.1 D;exact⟨rfl,rfl⟩
 have a3:∀ {j:Nat},Pred ops.toList x.ix j→hO listed j:=fun h=>Ii J n.closed (fun o' bs=>by rw[ce]at bs;cases bs;exact hr) h
 have cb:x∈done++r:=by rw[←n.split];exact nJ.2 ⟨D,ae⟩
 have cf:x∈r:=by
  rcases gU.1 cb with h|h
  ·exact absurd ((n.gb x cb).2 h) dt
  ·exact h
 have d0:∃d,r=x::d:=by
  cases r with
  |nil=>cases cf
  |cons e d=>
   rcases gL.1 cf with rfl|h
   ·exact⟨d,rfl⟩
   ·have hp:Pred ops.toList x.ix e.ix:=(rM.1 (List.pairwise_append.1 a0).2.1).1 x h;have df:=(n.gb e aJ).1 (a3 hp);have:=(List.pairwise_append.1 a0).2.2 e df e aJ;have:=pred_lt J this;omega
 obtain⟨d,rfl⟩:=d0;have ca:iP P G x.s F H fun q X=>fZ P G (ez (lmap (fun i=>b_.re i.s) (kB (fun i=>and (!i.gH) (and (v5 i.s.cop) (and (b8 (mL (done++x::d) i.mask) done.length) (!(ia x.mask i.ix))))) (dn N T ops.toList))) (yT (dn N T ops.toList) (done++x::d) d (done.length+1))) q X f:=dE
 rw[ch.1]at ca;have bj:(done++[x]).length=done.length+1:=aJ;have ac:(done++[x])++d=done++x::d:=aJ;have E:∀y∈dn N T ops.toList,y.mask=maskAt ops.toList y.ix∧y.s=stepOf N T ops.toList y.o∧oW (cop N T y.o.op)=y.gH:=by
  intro y c;obtain⟨i,al,_,rfl⟩:=oK.1 c;exact⟨rfl,rfl,rfl⟩
 have a8:∀y∈dn N T ops.toList,(mL (done++x::d) y.mask≤done.length↔pS ops.toList y (x::d)):=fun y c=>Kv J a0 (E y c).1
 have b2:∀y∈dn N T ops.toList,(mL (done++x::d) y.mask≤done.length+1↔pS ops.toList y d):=fun y c=>by
  have:=Kv (done:=done++[x]) (r:=d) J (by rw[ac];exact a0) (E y c).1;rw[ac,bj]at this;exact this
 have ad:∀u,u∈mG (dn N T ops.toList) (done++x::d) (done.length+1)↔u∈dn N T ops.toList∧u.gH=false∧pS ops.toList u d∧¬pS ops.toList u (x::d):=by
  intro u;unfold mG;rw[uq,nJ];constructor
  ·rintro⟨k,m⟩;rw[cz,beq_eq]at m;exact⟨k,by simpa using m.1,(b2 u k).1 aa,fun h=>by have:=(a8 u k).2 h;omega⟩
  ·rintro⟨k,m,I,z⟩;refine⟨k,?_⟩;rw[cz,beq_eq];have B:=(b2 u k).2 I;have Z:=mt (a8 u k).1 z;exact⟨by simp[m],aa⟩
 refine acT cd hT cA ho hw n.ext.rel n.Bz ca ?_;intro v v' M w' X iS d7 a7;generalize ar:put F x.o.dst v=q at a7
 replace ar:=ar.symm;rw[iV]at a7;obtain⟨b1,da⟩:=apm (fun i=>i.s) (fZ.app.1 a7);rw[acS,iV]at b1;obtain⟨O,Y,d1,dT⟩:=acR (fun u C=>by
  obtain⟨k,m,_,_⟩:=(ad u).1 C;rw[(E u k).2.1];show oW (cop N T u.o.op)=false;rw[(E u k).2.2];exact m) (fZ.app.1 b1)
 have ab:∀y,Out N T ops (x::d) listed y→∀t,kh ops.toList y.o t=true→q.get V.undef t=F.get V.undef t:=by
  intro y c t p;rw[ar];cases L:x.o.dst with
  |none=>rfl
  |some t0=>
   rw[nB,au];intro e;subst e;rcases((pq S D).2 t0 L).2 y c.1 with h|h|h|h
   ·have m:=c.2.1;rw[pW c.1 D h,ae]at m;cases m
   ·rw[p]at h;cases h
   ·exact c.2.2.1 x aJ h
   ·exact c.2.2.2 (a3 h.2)
 have c':∀y,Out N T ops (x::d) listed y→j0 N T ops.toList H0.next y.o q X M:=by
  intro y c;refine(n.yC y c).keep (ab y c) (fun id et B Z a2=>⟨?_,?_,ei a2 iS.next⟩) (fun xs g u B Z a2 bd=>?_)
  ·rw[iS.mQ a2 Z (by rw[B];simp)];exact B
  ·cases h:M id with
   |none=>rfl
   |some l=>have:=(iS.fresh Z h).1;omega
  ·have b0:∀t,reads ops.toList y.o t=true→q.get V.undef t=F.get V.undef t:=fun t p=>ab y c t (by unfold kh;rw[p];simp)
   obtain⟨t,p,_⟩:=n.yC y c;have dd:q.get V.undef t=F.get V.undef t:=ab y c t (by unfold kh;rw[uE.2 p];rfl);have hm:y∈kB (fun i=>and (!i.gH) (and (v5 i.s.cop) (and (b8 (mL (done++x::d) i.mask) done.length) (!(ia x.mask i.ix))))) (dn N T ops.toList):=by
    rw[uq,nJ];refine⟨c.1,?_⟩;have dC:v5 y.s.cop=true:=by rw[(E y c.1).2.1];show v5 (cop N T y.o.op)=true;rw[B];rfl
    have db:b8 (mL (done++x::d) y.mask) done.length=true:=(eN _ _).2 ((a8 y c.1).2 c.2.2.1);have ds:ia x.mask y.ix=false:=by
     apply mB.2;intro h;rw[ch.2]at h;exact c.2.2.2 (a3 h)
    rw[c.2.1,dC,db,ds];rfl
   have aw:=da y hm;rw[(E y c.1).2.1]at aw;have d9:(stepOf N T ops.toList y.o).want q=some true:=(s3 b0).trans Z;rcases aw with h0|⟨_,aw⟩
   ·rw[d9]at h0;cases h0
   ·obtain⟨u1,bi,d5⟩:=aw xs _ B;have d6:=(d5 t p).symm;rw[q8 (J7 B) b0]at bi;rw[bi,d6];have cs:bM.kP V.undef (path t) q=q.get V.undef t:=rfl;rw[cs,dd];rw[p]at bd;rw[←bd];rfl
 have hB:H0.next≤X.next:=cI n.ext.next iS.next
 obtain⟨q1,ea,eb,ed,eh,el,em⟩:=acQ (N:=N) (T:=T) (ol:=ops.toList) (B:=H0.next) (cf:=o5) (φ:=M) (w:=w') (mG (dn N T ops.toList) (done++x::d) (done.length+1)) q X O Y (fun al=>∃y,Out N T ops (x::d) listed y∧al=y.o)
  (fun u C=>by
    obtain⟨k,m,_,_⟩:=(ad u).1 C;refine⟨(E u k).2.1,by rw[(E u k).2.2];exact m,?_⟩;cases L:u.o.dst with
    |none=>have:=(pq S k).1 L;rw[m]at this;cases this
    |some t=>exact⟨t,rfl,((pq S k).2 t L).1.resolve_left (by rw[m];simp)⟩)
  (by
    rintro _ u ⟨y,c,rfl⟩ C t p;obtain⟨k,m,_,z⟩:=(ad u).1 C;rcases((pq S k).2 t p).2 y c.1 with h|h|h|h
    ·rw[pW c.1 k h]at c;exact absurd c.2.2.1 z
    ·exact h
    ·exact absurd (fun e A hp=>c.2.2.1 e A (JX J h hp)) z
    ·rw[m]at h;cases h.1)
  (by
    unfold mG;rw[uq];refine(List.Pairwise.filter _ (Ly ops.toList)).imp_of_mem ?_;intro u1 u2 d2 d4 ev t p;have d3:=(nJ.1 d2);have b':=(nJ.1 d4);have c1:u2.gH=false:=by have:=b'.2;rw[cz]at this;simpa using this.1
    rcases((pq S b'.1).2 t p).2 u1 d3.1 with h|h|h|h
    ·omega
    ·exact h
    ·have:=pred_lt J h;omega
    ·rw[c1]at h;cases h.1)
  iS.rel hB (by rintro _ ⟨y,c,rfl⟩;exact c' y c)
  (by
    rintro _ _ ⟨U,ci,rfl⟩ ⟨W,co,rfl⟩ id n1 n2;exact n.It _ _ ⟨U,ci,rfl⟩ ⟨W,co,rfl⟩ id (n1.congr (ab U ci)) (n2.congr (ab W co))) d1
 have a4:∀y,Out N T ops d (listed.setIfInBounds x.ix true) y→Out N T ops (x::d) listed y∨y∈mG (dn N T ops.toList) (done++x::d) (done.length+1):=by
  intro y c;rw[vk R]at c;obtain⟨⟨k,m,I,z⟩,_⟩:=c;by_cases h:pS ops.toList y (x::d)
  ·exact .inl ⟨k,m,h,z⟩
  ·exact .inr ((ad y).2 ⟨k,m,I,h⟩)
 have dl:∀y,Out N T ops (x::d) listed y→Out N T ops d (listed.setIfInBounds x.ix true) y:=by
  rintro y ⟨k,m,I,z⟩;refine(vk R).2 ⟨⟨k,m,fun e A=>I e (by simp[A]),z⟩,fun e=>?_⟩;rw[pW k D e,ae]at m;cases m
 have dp:∀u∈mG (dn N T ops.toList) (done++x::d) (done.length+1),Out N T ops d (listed.setIfInBounds x.ix true) u:=by
  intro u C;obtain⟨k,m,I,z⟩:=(ad u).1 C;refine(vk R).2 ⟨⟨k,m,I,fun hl=>z (n.ne u k m hl)⟩,fun e=>?_⟩;rw[pW k D e,ae]at m;cases m
 refine hK _ w' M d O Y rfl ⟨by rw[ac];exact n.split,by simp[n.size],YA n ce R hr,?_,?_,Zc (n.ext.trans iS) q1 eh el,n.Bz.mono iS.le,?_,?_,?_⟩ (by rw[ac,bj];exact dT) (yG _ _ _) (put_defers _ _ _)
 ·intro e A;rw[ac]at A;rw[vf R,gU,dH,n.gb e A];have dk:e∈dn N T ops.toList:=by rw[←n.split]at A;exact(nJ.1 A).1
  constructor
  ·rintro(h|h)
   ·exact .inr (pW dk D h)
   ·exact .inl h
  ·rintro(h|h)
   ·exact .inr h
   ·exact .inl (by rw[h])
 ·intro y c a9 hl;rw[vf R]at hl;rcases hl with h|h
  ·rw[pW c D h,ae]at a9;cases a9
  ·exact fun e A=>n.ne y c a9 h e (by simp[A])
 ·intro t p bo;rw[yG]at p;have B:O.get V.undef t=q.get V.undef t:=ed t (fun u C=>bo u (dp u C));rw[B,ar];have bv:x.o.dst≠some t→aS M (F.get V.undef t) (a.tmps.getD t undef):=fun _=>(n.tmps t p (fun y c=>bo y (dl y c))).mono iS.le
  cases L:x.o.dst with
  |none=>exact bv (by rw[L];simp)
  |some t0=>
   rw[nB];by_cases h:t0=t
   ·subst h;rw[ay rfl];simpa [Act.put,p]using d7
   ·rw[au h];have:=bv (by rw[L];intro e;exact h (Option.some.inj e));simpa [Act.put,Array.getElem?_setIfInBounds_ne h]using this
 ·intro y c;rcases a4 y c with h|h
  ·exact ea y.o ⟨y,h,rfl⟩
  ·exact eb y h
 ·rintro _ _ ⟨U,k,rfl⟩ ⟨W,m,rfl⟩ id n1 n2;refine em _ _ ?_ ?_ id n1 n2
  ·rcases a4 U k with h|h
   ·exact .inl ⟨U,h,rfl⟩
   ·exact .inr ⟨U,h,rfl⟩
  ·rcases a4 W m with h|h
   ·exact .inl ⟨W,h,rfl⟩
   ·exact .inr ⟨W,h,rfl⟩
end
section
variable {P:Program}{N:eF}{T:cE}{G:Nat}{ops:Array Oper}{ro:Option Nat}{nn:Nat}
variable {jK:aO}{H0:ag}{w0:World}{done r:List Info}{F:Fr}{H:ag}{listed:Array Bool}{a:Act}{w:World}{φ:aO}
theorem adY(d:lg ops.toList 0=true)(l:listed.size=ops.size)(h:Region.ready .any ops listed=[]):∀i,i<ops.size→hO listed i:=by
 intro i;induction i using jb with
 |_ i k=>
  intro b;refine m6 fun a=>?_
  have c:i∈Region.ready .any ops listed:=by
   refine mem_ready.2 ⟨?_,ops[i],by simp[b],fun e g f=>?_⟩
   ·unfold hO at a;have:i<listed.size:=aa;simp[this]at a⊢;exact a
   ·have j:=vP d (i:=i) (o:=ops[i]) (by simp[b]) (e:=e) (by simpa using g) (by rw[←Mi];exact f);exact k e.on j aa
  rw[h]at c;cases c
theorem age(f:lg ops.toList 0=true)(k:(done++r).Pairwise (fun a b=>Pred ops.toList b.ix a.ix))(c:m7 N T G ops jK H0 w0 done r F H listed a w φ)(h:Region.ready .any ops listed=[]):r=[]∧jd φ F a.tmps:=by
 have g:=adY f c.size h;have j:∀x∈dn N T ops.toList,x.ix<ops.size:=by
  intro x d;obtain⟨i,o,n,rfl⟩:=oK.1 d;have:=(fo.1 n).1;show i<ops.size;simpa using this
 refine⟨?_,fun t p=>c.tmps t p (fun x d=>absurd (g _ (j x d.1)) d.2.2.2)⟩;cases r with
 |nil=>rfl
 |cons e r=>
  have m:e∈dn N T ops.toList:=by
   have:e∈done++e::r:=aJ;rw[←c.split]at this;exact(nJ.1 this).1
  have l:=(c.gb e aJ).1 (g _ (j e m));have:=(List.pairwise_append.1 k).2.2 e l e aJ;have:=pred_lt f this;omega
variable{g:Nat}
theorem YC(a:g<listed.size)(h:¬hO listed g){k:Nat}(f:listed.toList.count false≤k+1):(listed.setIfInBounds g true).toList.count false≤k:=by
 have d:listed.toList[g]'(by simpa using a)=false:=by
  unfold hO at h;simp[a]at h;simpa using h
 have e:(listed.setIfInBounds g true).toList=listed.toList.set g true:=aJ;rw[e,List.count_set (by simpa using a),d];have b:(if(false==false)=true then 1 else 0)=1:=rfl;have c:(if(true==false)=true then 1 else 0)=0:=rfl;rw[b,c];omega
variable{f:Fr→ag→Prop}
theorem ad4{Q:Exit→Act→World→Prop}(hT:c4 P T)(cA:jo P N)(s:lg ops.toList 0=true)(V:rC ops.toList (dn N T ops.toList)=true)
 (E:((dn N T ops.toList).filter (fun i=>i.gH)).Pairwise (fun a b=>Pred ops.toList b.ix a.ix)) (am:∀o∈ops.toList,mh G g o=true) {u:List Deferred}
 (hQ:∀p d n B C,Ext jK H0 w0 p C n→jd p B d.tmps→d.tmps.size=g→d.defers=u→f B C→Q .normal d n):
 ∀(q:Nat) (listed:Array Bool) (a:Act) (w:World) (φ:aO) (F:Fr) (H:ag) (done r:List Info),m7 N T G ops jK H0 w0 done r F H listed a w φ→fZ P G (yY (dn N T ops.toList) (done++r) r done.length) F H f→
  listed.toList.count false≤q→a.tmps.size=g→a.defers=u→wpAnyIn (fw ro) nn P .any ops Q q listed a w:=by
 have M:∀(listed:Array Bool) (a:Act) (w:World) (φ:aO) (F:Fr) (H:ag) (done r:List Info),m7 N T G ops jK H0 w0 done r F H listed a w φ→fZ P G (yY (dn N T ops.toList) (done++r) r done.length) F H f→
  a.tmps.size=g→a.defers=u→Region.ready .any ops listed=[]→Q .normal a w:=by
  intro listed a w φ F H done r c m h k t;obtain⟨rfl,aw⟩:=age s (by rw[←c.split];exact E) c t;exact hQ φ a w F H c.ext aw h k m
 intro q;induction q with
 |zero=>
  intro listed a w φ F H done r c m J h k;have t:Region.ready .any ops listed=[]:=by
   rw[List.eq_nil_iff_forall_not_mem];intro i z;obtain⟨o,_,_,j,l,_⟩:=abX z;have:=YC l j (k:=0) aa;have hf:listed.toList[i]'(by simpa using l)=false:=by
    unfold hO at j;simp[l]at j;simpa using j
   have al:false∈listed.toList:=by rw[←hf];exact u_ _
   have:=List.count_pos_iff.2 al;omega
  exact⟨t,M listed a w φ F H done r c m h k t⟩
 |succ q X=>
  intro listed a w φ F H done r c m J h k;refine⟨M listed a w φ F H done r c m h k,fun i z=>?_⟩;obtain⟨o,O,U,j,l,A⟩:=abX z;have W:mkInfo N T ops.toList i o∈dn N T ops.toList:=oK.2 ⟨i,o,U,rfl⟩;have I:(done++r).Pairwise (fun a b=>Pred ops.toList b.ix a.ix):=by rw[←c.split];exact E
  have S:∀o∈ops.toList,mh G a.tmps.size o=true:=by rw[h];exact am
  have K:=YC l j J;cases D:(mkInfo N T ops.toList i o).gH with
  |false=>
   have ap:Out N T ops r listed (mkInfo N T ops.toList i o):=by
    refine⟨W,D,fun e L hp=>?_,j⟩;have hl:hO listed e.ix:=Ii s c.closed (fun o' R=>by rw[show ops.toList[(mkInfo N T ops.toList i o).ix]? =some o from U]at R;cases R;exact A) hp;have ac:=(c.gb e (by simp[L])).1 hl;have:=(List.pairwise_append.1 I).2.2 e ac e L;have:=pred_lt s this;omega
   refine anS (x:=mkInfo N T ops.toList i o) hT cA s V S c ap O l A ?_;intro d n p y v x;exact X _ d n p F H done r y m K (v.trans h) (x.trans k)
  |true=>
   refine ag0 (x:=mkInfo N T ops.toList i o) hT cA s V I S c W D j O l A m ?_;intro d n p r' Y Z _ y a0 v x;exact X _ d n p Y Z (done++[mkInfo N T ops.toList i o]) r' y a0 K (v.trans h) (x.trans k)
variable{m:Bool}
theorem apx{Q:Exit→Act→World→Prop}{id:Nat}(hT:c4 P T)(cA:jo P N)(fJ:P.follows .mixedOrders=true)(Y:∀D∈ops.toList,mh G a.tmps.size D=true)
 (Z:Rel φ H w) (V:jd φ F a.tmps) (W:kn G φ) {l:List b_} (A:plan N T ops.toList m=some l) (B:fZ P G l F H f)
 (O:∀ψ q w' L M,Ext φ H w ψ M w'→jd ψ L q.tmps→q.tmps.size=a.tmps.size→q.defers=a.defers→f L M→Q .normal q w'):(Code.region id ops m).wpIn (fw ro) nn P Q a w:=by
 cases m with
 |false=>
  cases A;refine wpIn_region ?_;have:=aoA (ro:=ro) (nn:=nn) (Q:=Q) hT cA Y ops.toList 0 φ F H a w (fun j D hj=>by simpa using hj) rfl Z V W B O;rw[List.range_eq_range'];simpa using this
 |true=>
  obtain⟨b,A⟩:=cS.1 (show bq (and (lg ops.toList 0) (and (rC ops.toList (dn N T ops.toList)) (A7 (kB (fun i=>i.gH) (dn N T ops.toList)))))
   (some (yT (dn N T ops.toList) (kB (fun i=>i.gH) (dn N T ops.toList)) (kB (fun i=>i.gH) (dn N T ops.toList)) 0))=some l from A)
  cases A;rw[cz,cz,uq]at b;rw[uq]at B;obtain⟨r,C,a1⟩:=b;have g:∀y∈dn N T ops.toList,y.mask=maskAt ops.toList y.ix∧y.s=stepOf N T ops.toList y.o∧oW (cop N T y.o.op)=y.gH:=by
   intro y p;obtain⟨i,D,_,rfl⟩:=oK.1 p;exact⟨rfl,rfl,rfl⟩
  have R:=afX r (l:=(dn N T ops.toList).filter (fun i=>i.gH)) (fun x hx=>(g x (nJ.1 hx).1).1) a1;refine wpIn_region_any fJ ?_;generalize U:(dn N T ops.toList).filter (fun i=>i.gH)=d at*
  rw[acS,iV]at B;have ac:∀y∈dn N T ops.toList,(mL d y.mask≤0↔pS ops.toList y d):=fun y p=>Kv (done:=[]) r R (g y p).1
  have K:∀u,u∈mG (dn N T ops.toList) d 0↔u∈dn N T ops.toList∧u.gH=false∧pS ops.toList u d:=by
   intro u;unfold mG;rw[uq,nJ];constructor
   ·rintro⟨b,c⟩;rw[cz,beq_eq]at c;exact⟨b,by simpa using c.1,(ac u b).1 aa⟩
   ·rintro⟨b,c,k⟩;refine⟨b,?_⟩;rw[cz,beq_eq];have e1:=(ac u b).2 k;exact⟨by simp[c],aa⟩
  obtain⟨E,I,a6,a5⟩:=acR (fun u n=>by
   obtain⟨b,c,_⟩:=(K u).1 n;rw[(g u b).2.1];show oW (cop N T u.o.op)=false;rw[(g u b).2.2];exact c) (fZ.app.1 B)
  have ab:Rel φ H { w with drawn:=w.drawn+1 }:=Z.drew 1
  obtain⟨q1,b2,bd,be,bi,bj,bo⟩:=acQ (N:=N) (T:=T) (ol:=ops.toList) (B:=H.next) (cf:=o5) (φ:=φ) (w:= { w with drawn:=w.drawn+1 }) (mG (dn N T ops.toList) d 0) F H E I (fun _=>False)
   (fun u n=>by
     obtain⟨b,c,_⟩:=(K u).1 n;refine⟨(g u b).2.1,by rw[(g u b).2.2];exact c,?_⟩;cases S:u.o.dst with
     |none=>have:=(pq C b).1 S;rw[c]at this;cases this
     |some t=>exact⟨t,rfl,((pq C b).2 t S).1.resolve_left (by rw[c];simp)⟩)
   (fun _ _ h=>h.elim)
   (by
     unfold mG;rw[uq];refine(List.Pairwise.filter _ (Ly ops.toList)).imp_of_mem ?_;intro u1 u2 a7 a9 b1 t J;have a8:=(nJ.1 a7);have ad:=(nJ.1 a9);have aw:u2.gH=false:=by have:=ad.2;rw[cz]at this;simpa using this.1
     rcases((pq C ad.1).2 t J).2 u1 a8.1 with h|h|h|h
     ·omega
     ·exact h
     ·have:=pred_lt r h;omega
     ·rw[aw]at h;cases h.1)
   ab (aR _) (fun _ h=>h.elim) (fun _ _ h=>h.elim) a6
  have v:∀i,¬hO (qx ops.size false) i:=by
   intro i h;unfold hO at h;by_cases X:i<ops.size
   ·simp[X]at h
   ·simp[Array.getElem?_eq_none (show(qx ops.size false).size≤i by simpa using X)]at h
  have a2:Ext φ H w φ H { w with drawn:=w.drawn+1 }:=⟨ab,aO.le_refl φ,fun b c=>absurd (b.symm.trans c) aJ,fun _ _ _=>rfl,aR _,fun _ _=>rfl,aR _,⟨rfl,rfl,rfl,fun h=>h,fun _ cs _ _ h=>⟨cs,h,rfl⟩⟩,fun _ h=>⟨h,rfl⟩,fun _ _ e=>.inl e⟩;have z:∀y,Out N T ops d (qx ops.size false) y↔y∈mG (dn N T ops.toList) d 0:=by
   intro y;rw[K];exact⟨fun⟨b,c,k,_⟩=>⟨b,c,k⟩,fun⟨b,c,k⟩=>⟨b,c,k,v _⟩⟩
  have hc:m7 N T G ops φ H w [] d E I (qx ops.size false) a { w with drawn:=w.drawn+1 } φ:=by
   refine⟨U,aJ,fun i D h=>absurd h (v i),fun e _=>⟨fun h=>absurd h (v _),fun h=>by cases h⟩,fun x _ _ h=>absurd h (v _),Zc a2 q1 bi bj,W,?_,fun y p=>bd y ((z y).1 p),?_⟩
   ·intro t J a4;rw[be t (fun u n=>a4 u ((z u).2 n))];exact V t J
   ·rintro _ _ ⟨y1,b,rfl⟩ ⟨am,c,rfl⟩ id n1 n2;exact bo _ _ (.inr ⟨y1,(z y1).1 b,rfl⟩) (.inr ⟨am,(z am).1 c,rfl⟩) id n1 n2
  exact ad4 (jK:=φ) (H0:=H) (w0:=w) hT cA r C (by rw[U];exact R) Y O ops.size _ a _ φ E I [] d hc a5 aJ rfl rfl
end
section
variable {P:Program}{N:eF}{T:cE}{G:Nat}
theorem least{I:Nat→Prop}:∀ {k:Nat},I k→∃m,I m∧∀j,I j→m≤j:=by
 intro k;induction k using jb with
 |_ k d=>
  intro h;by_cases b:∃j,j<k∧I j
  ·obtain⟨j,c,a⟩:=b;exact d j c a
  ·exact⟨k,h,fun j a=>by
    rcases k4 j k with h3|h3
    ·exact absurd ⟨j,h3,a⟩ b
    ·exact h3⟩
variable{a:Nat}{q:World}
open Classical in
theorem arZ{j:Fence}{Q:Exit→Act→World→Prop}{c:Code}(I:Nat→Act→World→Prop)(round:∀k b q,I k b q→c.wpIn j a P (Exit.then (fun d g=>∃m,m<k∧I m d g) Q) b q){k:Nat}{b:Act}(u:I k b q):(Code.loop c).wpIn j a P Q b q:=by
 refine wpIn_loop (fun b q=>∃k,I k b q) (fun b q=>if h:∃k,I k b q then Classical.choose (least (I:=fun k=>I k b q) (uZ h))else 0) ⟨k,u⟩ ?_;intro b q p;have s:=uZ (least (I:=fun k=>I k b q) (uZ p));refine wpIn_mono (round _ b q s.1) ?_;intro e d g f;cases e with
 |normal=>
  obtain⟨m,r,o⟩:=f;have i:∃k,I k d g:=⟨m,o⟩;have t:=uZ (least (I:=fun k=>I k d g) (uZ i));refine⟨i,?_⟩;show(if h:∃k,I k d g then Classical.choose (least (I:=fun k=>I k d g) (uZ h))else 0)<(if h:∃k,I k b q then Classical.choose (least (I:=fun k=>I k b q) (uZ h))else 0);rw[dif_pos i,dif_pos p];exact eH (t.2 m o) r
 |exit id=>exact f
 |goto l=>exact f
 |ret=>exact f
 |panic v=>exact f
 |outgrown=>exact f
def X.exit':X→Exit
 |.norm=>.normal
 |.exit id=>.exit id
 |.ret=>.ret
structure mC (B:Nat) (φ:aO) (H:ag) (w:World) (ψ:aO) (H':ag) (w':World):Prop where
 rel:Rel ψ H' w'
 le:∀ {b:Nat}{l:Loc},b<B→φ b=some l→ψ b=some l
 fresh:∀ {b:Nat}{l:Loc},(b<B→φ b=none)→ψ b=some l→B≤b∧(w.heap.size≤l.c∨∃b0 l0,φ b0=some l0∧l0.c=l.c)
 mQ:∀ {b:Nat},b<B→φ b=none→(∀x y,H.get b≠ .b5 x y)→H'.get b=H.get b
 next:B≤H'.next
 kR:∀ {c:Nat},c<w.heap.size→(∀b l,φ b=some l→l.c≠c)→w'.heap[c]? =w.heap[c]?
 size:w.heap.size≤w'.heap.size
 same:gW w w'
 iU:∀ {b:Nat}{l:Loc},b<B→φ b=some l→H.get b=.none→H'.get b=.none∧w'.heap[l.c]? =w.heap[l.c]?
 wg:∀(c:Nat) (x:Obj),φ.im c=some x→ψ.im c=some x
 l6:∀(c:Nat) (x:Obj),ψ.im c=some x→φ.im c=some x∨w.heap.size≤c∨∃b l,φ b=some l∧l.c=c∧H.get b≠ .none
 Jj:∀ {b b':Nat}{l l':Loc},φ b=some l→H.get b=.none→l.c<w.heap.size→ψ b'=some l'→l'.c=l.c→H'.get b'=.none
variable{c:ag}{J:ag}
theorem Ext.wX{B:Nat}{k o:aO}{n:World}(h:Ext k c q o J n)(j:B≤c.next):mC B k c q o J n:=by
 refine⟨h.rel,fun _ e=>h.le _ _ e,?_,fun a t w=>h.mQ (ei a j) t w,cI j h.next,h.kR,h.size,h.same,fun _ f i=>h.iU f i,h.le.im,h.l6,?_⟩
 rotate_left
 ·intro b p l z f i _ r s;by_cases a:p=b
  ·rw[a];exact(h.iU f i).1
  ·rcases h.rel.inj r (h.le b l f) s a with⟨_,_,g,_,_,cu⟩|⟨y,_⟩
   ·rw[(h.iU f i).1]at cu;cases cu
   ·exact y
 intro b l a e;cases d:k b with
 |none=>
  obtain⟨u,v⟩:=h.fresh d e;exact⟨cI j u,v⟩
 |some m=>
  refine⟨ja (fun x=>by rw[a x]at d;cases d),.inr ⟨b,m,d,?_⟩⟩;rw[h.le b m d]at e;cases e;rfl
theorem mC.full{φ g:aO}{f:World}(m:Rel φ c q)(h:mC c.next φ c q g J f):Ext φ c q g J f:=by
 have d:∀ {b:Nat}{l:Loc},φ b=some l→b<c.next:=fun{b l} e=>rQ fun k=>by rw[(m.top k).1]at e;cases e
 exact⟨h.rel,⟨fun b l e=>h.le (d e) e,h.wg⟩,fun j e=>h.fresh (fun _=>j) e,h.mQ,h.next,h.kR,h.size,h.same,fun a i=>h.iU (d a) a i,h.l6⟩
theorem mC.trans{B:Nat}{p r R:aO}{F:ag}{P Q:World}(h:mC B p c q r J P)(d:mC B r J P R F Q):mC B p c q R F Q:=by
 have E:∀ {f:Nat}{i:Loc},r f=some i→q.heap.size≤i.c∨∃s g,p s=some g∧g.c=i.c:=by
  intro f i e;by_cases v:f<B→p f=none
  ·exact(h.fresh v e).2
  ·have K:f<B∧p f≠none:=by
    refine⟨m6 fun D=>v fun k=>absurd k D,fun D=>v fun _=>D⟩
   cases n:p f with
   |none=>exact absurd n K.2
   |some g=>
    have:=h.le K.1 n;rw[this]at e;exact .inr ⟨f,g,n,by rw[Option.some.inj e]⟩
 have N:∀ {b:Nat},b<B→p b=none→r b=none:=by
  intro b a A;cases e:r b with
  |none=>rfl
  |some l=>exact absurd (h.fresh (fun _=>A) e).1 aa
 refine⟨d.rel,fun a e=>d.le a (h.le a e),?_,?_,d.next,?_,cI h.size d.size,h.same.trans d.same,fun a j w=>let⟨S,T⟩:=h.iU a j w;let⟨U,V⟩:=d.iU a (h.le a j) S;⟨U,V.trans T⟩,fun t x e=>d.wg t x (h.wg t x e),?_,?_⟩
 rotate_left 3
 ·intro t x e;rcases d.l6 t x e with e|e|⟨b,l,j,w,y⟩
  ·exact h.l6 t x e
  ·exact .inr (.inl (cI h.size e))
  ·rcases E j with o|⟨f,i,o,m⟩
   ·exact .inr (.inl aa)
   ·by_cases O:i.c<q.heap.size
    ·exact .inr (.inr ⟨f,i,o,m.trans w,fun u=>y (h.Jj o u O j m.symm)⟩)
    ·exact .inr (.inl aa)
 ·intro b G l W j w n y o;have O:=h.size;by_cases a:∃s g,r s=some g∧g.c=l.c
  ·obtain⟨s,g,m,u⟩:=a;exact d.Jj m (h.Jj j w n m u) aa y (o.trans u.symm)
  ·rcases(d.fresh (fun C=>by
    cases I:r G with
    |none=>rfl
    |some g=>
     have:=d.le C I;rw[y]at this;cases this;exact absurd ⟨G,W,I,o⟩ a) y).2 with m|⟨f,i,m,u⟩
   ·omega
   ·exact absurd ⟨f,i,m,u.trans o⟩ a
 ·intro b l a e;obtain⟨k,z⟩:=d.fresh (fun C=>N C (a C)) e;refine⟨k,?_⟩;rcases z with z|⟨f,i,n,j⟩
  ·exact .inl (cI h.size z)
  ·rw[←j];exact E n
 ·intro b a A L;have k:=h.mQ a A L;rw[←k];exact d.mQ a (N a A) (by rw[k];exact L)
 ·intro t v M;rw[←h.kR v M];refine d.kR (ei v h.size) (fun b l e=>?_);rcases E e with k|⟨s,g,k,z⟩
  ·omega
  ·rw[←z];exact M s g k
theorem kn.ext{B:Nat}{d f:aO}{j:World}(g:kn G d)(i:G≤B)(h:mC B d c q f J j):kn G f:=fun b a=>let⟨l,e⟩:=g b a;⟨l,h.le (ei a i) e⟩
theorem kn.next{a:aO}(g:kn G a)(b:Rel a c q):G≤c.next:=by
 refine ja fun h=>?_
 obtain⟨d,e⟩:=g c.next h
 rw[(b.top (aR _)).1]at e;cases e
def Marks(e:aO)(w:World)(a:Nat):List Deferred→Prop
 |[]=>True
 |d::ds=>(∃r,d.target=.collected r∧a≤r∧w.heap[r]? =some (.deferred (some []))∧(∀b l,e b=some l→l.c≠r)∧(∀f∈ds,f.target≠ .collected r))∧Marks e w a ds
theorem Marks.ext{B:Nat}{d t:aO}{s:World}(h:mC B d c q t J s):∀ {ms:List Deferred},Marks d q a ms→Marks t s a ms
 |[],_=>trivial
 |_::_,⟨⟨r,g,x,o,i,y⟩,z⟩=>by
  have A:r<q.heap.size:=(uX.1 o).1;refine⟨⟨r,g,x,(h.kR A i).trans o,?_,y⟩,z.ext h⟩;intro b l e;by_cases j:b<B→d b=none
  ·rcases(h.fresh j e).2 with n|⟨u,m,n,w⟩
   ·omega
   ·rw[←w];exact i u m n
  ·have p:b<B∧d b≠none:=⟨m6 fun k=>j fun g=>absurd g k,fun k=>j fun _=>k⟩;cases f:d b with
   |none=>exact absurd f p.2
   |some m=>
    have:=h.le p.1 f;rw[this]at e;have v:=Option.some.inj e;rw[←v];exact i b m f
theorem Marks.lt{i:aO}:∀ {ms:List Deferred},Marks i q a ms→∀d∈ms,∀r,d.target=.collected r→a≤r∧r<q.heap.size
 |[],_,d,hd=>by cases hd
 |_::_,⟨⟨r,c,e,f,_⟩,g⟩,d,hd=>by
  intro h b;rcases gL.1 hd with rfl|hd
  ·rw[c]at b;cases b;exact⟨e,(uX.1 f).1⟩
  ·exact g.lt d hd h b
variable{g:Nat}
theorem Marks.app{c:aO}(i:a≤g):∀ {ms b:List Deferred},Marks c q g ms→Marks c q a b→(∀d∈b,∀r,d.target=.collected r→r<g)→Marks c q a (ms++b)
 |[],_,_,h,_=>h
 |_::_,_,⟨⟨r,l,m,n,o,p⟩,s⟩,k,j=>by
  refine⟨⟨r,l,cI i m,n,o,?_⟩,Marks.app i s k j⟩;intro f hd' e;rcases gU.1 hd' with hd'|hd'
  ·exact p f hd' e
  ·have:=j f hd' r e;omega
def j5(B n:Nat)(h:aO)(H:ag)(w:World)(a:Act)(Q:X→Fr→ag→Prop)(e:Exit)(b:Act)(g:World):Prop:=
 ∃x d f c ms,e=X.exit' x∧mC B h H w c f g∧jd c d b.tmps∧b.tmps.size=n∧b.defers=ms++a.defers∧Marks c g w.heap.size ms∧Q x d f
def hU(P:Program)(G B n:Nat)(rd:Bool)(c:Code)(F:Fr)(H:ag)(Q:X→Fr→ag→Prop):Prop:=
 ∀(b:aO) (a:Act) (w:World) (d:Option Nat),(rd=false→d=none)→a.tmps.size=n→Rel b H w→jd b F a.tmps→kn G b→G≤B→B≤H.next→c.wpIn (fw d) 0 P (j5 B n b H w a Q) a w
variable{M:X→Fr→ag→Prop}
theorem j5.mono{B:Nat}{f:aO}{a:Act}{Q:X→Fr→ag→Prop}(h:∀x F c,Q x F c→M x F c){e:Exit}{b:Act}{d:World}(p:j5 B g f c q a Q e b d):j5 B g f c q a M e b d:=
 let⟨x,i,j,u,ms,k,l,m,o,r,s,t⟩:=p;⟨x,i,j,u,ms,k,l,m,o,r,s,h _ _ _ t⟩
variable{o:Fr}
theorem j5.here{B:Nat}{d:aO}{b:Act}(x:X)(g:b.tmps.size=a)(i:Rel d c q)(f:jd d o b.tmps)(e:B≤c.next)(h:M x o c):j5 B a d c q b M x.exit' b q:=
 ⟨x,o,c,d,[],rfl,(Ext.refl i).wX e,f,g,rfl,trivial,h⟩
theorem j5.after{B:Nat}{o f:aO}{H:ag}{b:World}{g i:Act}{ms:List Deferred}(k:mC B o H q f c b)(z:i.defers=ms++g.defers)(l:Marks f b q.heap.size ms){e:Exit}{h:Act}{m:World}(p:j5 B a f c b i M e h m):j5 B a o H q g M e h m:=by
 obtain⟨x,s,t,E,D,u,j,g3,v,w,y,bO⟩:=p;refine⟨x,s,t,E,D++ms,u,k.trans j,g3,v,by rw[w,z,eG],Marks.app k.size y (l.ext j) (fun d A r C=>(l.lt d A r C).2),bO⟩
section
variable {B n:Nat}{rd:Bool}{F:Fr}{H:ag}{Q Q':X→Fr→ag→Prop}
theorem hU.mono{c:Code}(k:∀x F H,Q x F H→Q' x F H)(h:hU P G B n rd c F H Q):hU P G B n rd c F H Q':=fun _ _ _ _ b d e f g i j=>wpIn_mono (h _ _ _ _ b d e f g i j) fun _ _ _=>j5.mono k
theorem Dp(h:Q .norm F H):hU P G B n rd .skip F H Q:=fun _ _ _ _ _ a b c _ _ d=>wpIn_skip (j5.here .norm a b c d h)
theorem Di(h:Q .norm F H):hU P G B n rd (.label a) F H Q:=fun _ _ _ _ _ b c d _ _ e=>wpIn_label (j5.here .norm b c d e h)
theorem Dl(h:Q .ret F H):hU P G B n rd .ret F H Q:=fun _ _ _ _ _ a b c _ _ d=>wpIn_ret (j5.here .ret a b c d h)
theorem Dh{id:Nat}(h:Q (.exit id) F H):hU P G B n rd (.exit id) F H Q:=fun _ _ _ _ _ a b c _ _ d=>wpIn_exit (j5.here (.exit id) a b c d h)
def e_(K:Fr→ag→Prop)(Q:X→Fr→ag→Prop):X→Fr→ag→Prop
 |.norm,F,H=>K F H
 |x,F,H=>Q x F H
theorem Dn{k l:Code}(h:hU P G B n rd k F H (e_ (fun q r=>hU P G B n rd l q r Q) Q)):hU P G B n rd (.seq k l) F H Q:=by
 intro C a w z m s t u o g v;refine wpIn_seq (wpIn_mono (h _ _ _ _ m s t u o g v) ?_);rintro e y A ⟨x,i,j,p,ms,rfl,b,g3,c,d,f,bO⟩;cases x with
 |norm=>exact wpIn_mono (bO _ _ _ _ m c b.rel g3 (o.ext g b) g b.next) fun _ _ _=>j5.after b d f
 |exit id=>exact⟨.exit id,i,j,p,ms,rfl,b,g3,c,d,f,bO⟩
 |ret=>exact⟨.ret,i,j,p,ms,rfl,b,g3,c,d,f,bO⟩
variable{k:Operand}
theorem xq{c d:Code}{f:Fr→V}{t:Bool}(p:sG G n k=true)(r:gQ k=some f)(q:f F=.bool t)(h:hU P G B n rd (if t then c else d) F H Q):hU P G B n rd (.cond k c d) F H Q:=by
 intro v a w s j e l g i o m;have b:=abk g i (by rw[e];exact JL p) r;rw[q]at b;refine wpIn_cond (t:=t) ?_ (h _ _ _ _ j e l g i o m);generalize a.eval k=u at b
 cases b;rfl
def lX(id:Nat)(Q:X→Fr→ag→Prop):X→Fr→ag→Prop
 |.exit i,F,H=>if i=id then Q .norm F H else Q (.exit i) F H
 |x,F,H=>Q x F H
theorem Dg{id:Nat}{c:Code}(h:hU P G B n rd c F H (lX id Q)):hU P G B n rd (.block id c) F H Q:=by
 intro r a w C s t u v y A z;refine wpIn_block (wpIn_mono (h _ _ _ _ s t u v y A z) ?_);rintro e o q ⟨x,b,d,m,ms,rfl,f,g3,g,j,k,bO⟩;cases x with
 |norm=>exact⟨.norm,b,d,m,ms,rfl,f,g3,g,j,k,bO⟩
 |ret=>exact⟨.ret,b,d,m,ms,rfl,f,g3,g,j,k,bO⟩
 |exit i=>
  show(if i=id then j5 B n r H w a Q .normal o q else j5 B n r H w a Q (.exit i) o q);have l:if i=id then Q .norm b d else Q (.exit i) b d:=bO
  by_cases p:i=id
  ·rw[ay p]at l⊢;exact⟨.norm,b,d,m,ms,rfl,f,g3,g,j,k,l⟩
  ·rw[au p]at l⊢;exact⟨.exit i,b,d,m,ms,rfl,f,g3,g,j,k,l⟩
theorem Dj{c:Code}(I:Nat→Fr→ag→Prop)(ab:∀k F H,I k F H→hU P G B n rd c F H (e_ (fun f g=>∃m,m<k∧I m f g) Q)){k:Nat}(N:I k F H):hU P G B n rd (.loop c) F H Q:=by
 intro A a w ro O R S T U z V;refine arZ (fun k i v=>∃f g o ms,I k f g∧mC B A H w o g v∧jd o f i.tmps∧i.tmps.size=n∧i.defers=ms++a.defers∧Marks o v w.heap.size ms) ?_ (k:=k) ⟨F,H,A,[],N,(Ext.refl S).wX V,T,R,rfl,trivial⟩;rintro k i v ⟨f,g,o,ms,D,b,E,J,K,y⟩;refine wpIn_mono (ab k f g D _ _ _ _ O J b.rel E (U.ext z b) z b.next) ?_
 rintro e C w' ⟨x,p,q,l,h,rfl,j,g3,s,L,M,bO⟩;have u:Marks l w' w.heap.size (h++ms):=Marks.app b.size M (y.ext j) (fun d X r Z=>(y.lt d X r Z).2);have t:C.defers=(h++ms)++a.defers:=by rw[L,K,eG]
 cases x with
 |norm=>
  obtain⟨m,Y,W⟩:=bO;exact⟨m,Y,p,q,l,h++ms,W,b.trans j,g3,s,t,u⟩
 |exit id=>exact⟨.exit id,p,q,l,h++ms,rfl,b.trans j,g3,s,t,u,bO⟩
 |ret=>exact⟨.ret,p,q,l,h++ms,rfl,b.trans j,g3,s,t,u,bO⟩
variable{m:Bool}
theorem Dk(hT:c4 P T)(cA:jo P N)(fJ:P.follows .mixedOrders=true){id:Nat}{b:Array Oper}{l:List b_}(u:kS (mh G n) b.toList=true)(v:plan N T b.toList m=some l)(h:fZ P G l F H (Q .norm)):hU P G B n rd (.region id b m) F H Q:=by
 intro E a w C z c p q r A s;refine apx hT cA fJ (by rw[c];exact fun o t=>sw.1 u o t) p q r v h ?_;intro x y D d e f g i j k;exact⟨.norm,d,e,x,[],rfl,f.wX s,g,i.trans c,j,trivial,k⟩
theorem Dm{c:Code}(h:hU P G B n false c F H Q):hU P G B n false (.scope c) F H Q:=by
 intro t a w r i j k l m p o;cases i rfl;refine(wpIn_wide (n:=0)).2 (wp_scope_straight ((wpIn_wide (n:=0)).1 (wpIn_mono (h _ _ _ _ (fun _=>rfl) j k l m p o) ?_)));rintro e q s ⟨x,b,d,f,ms,rfl,g⟩;cases x with
 |norm=>exact⟨.norm,b,d,f,ms,rfl,g⟩
 |exit id=>exact⟨.exit id,b,d,f,ms,rfl,g⟩
 |ret=>exact⟨.ret,b,d,f,ms,rfl,g⟩
end
theorem auA{m:aO}(a:Rel m c q)(x:Obj):Ext m c q m c (q.alloc x):=by
 have k:∀ {d:Nat},d<q.heap.size→(q.alloc x).heap[d]? =q.heap[d]? :=by
  intro d h;show(q.heap.push x)[d]? =_;simp[uY,Nat.ne_of_lt h]
 have y:(q.alloc x).heap.size=q.heap.size+1:=by show(q.heap.push x).size=_;simp
 have n:∀ {d i:Nat},d<q.heap.size→(q.alloc x).cell? ⟨d,i,none⟩=q.cell? ⟨d,i,none⟩:=by
  intro d i h;unfold World.cell?;rw[k h]
 have u:∀ {d i:Nat},d<q.heap.size→(q.alloc x).frozen? ⟨d,i,none⟩=q.frozen? ⟨d,i,none⟩:=by
  intro d i h;unfold World.frozen?;rw[k h]
 refine⟨⟨?_,?_,a.len,a.inj,a.top,?_,a.mem,a.lp,?_,fun e=>(a.fj e).keep (k (a.fj e).lt) (a.fj e).off,a.lu⟩,aO.le_refl m,fun f j=>absurd (f.symm.trans j) aJ,fun _ _ _=>rfl,aR _,fun h _=>k h,aa,gW.alloc q x,fun f j=>⟨j,k (a.loc f)⟩,fun _ _ e=>.inl e⟩
 ·intro b l w g i v f j p r;rw[n (a.loc f)];exact a.cell f j p r
 ·intro b l i f j;rw[n (a.loc f),u (a.loc f)];exact a.room f j
 ·intro b l f;have:=a.loc f;omega
 ·intro b l o f j;obtain⟨s,t⟩:=a.cv f j;exact⟨s,t.mono (aO.le_refl m) (k (a.loc f))⟩
theorem ahu{p:aO}(d:Rel p c q)(n:∀b l,p b=some l→l.c≠a)(D:∀m t r,q.heap[a]? ≠some (.cells m t r))(x:Obj):Rel p c (jz q a x):=by
 have E:(jz q a x).heap.size=q.heap.size:=by simp[jz]
 have s:∀ {j i:Nat},j≠a→(jz q a x).cell? ⟨j,i,none⟩=q.cell? ⟨j,i,none⟩:=by
  intro j i h;unfold World.cell?;rw[mm (fun e=>h e.symm)]
 have C:∀ {j i:Nat},j≠a→(jz q a x).frozen? ⟨j,i,none⟩=q.frozen? ⟨j,i,none⟩:=by
  intro j i h;unfold World.frozen?;rw[mm (fun e=>h e.symm)]
 refine⟨?_,?_,d.len,d.inj,d.top,?_,d.mem,d.lp,?_,fun{j y} e=>(d.fj e).keep (mm (fun u=>by
  obtain⟨m,t,r,k⟩:=(d.fj e).kind;refine D m t r ?_;rw[u,←k];exact(d.fj e).obj) x) (d.fj e).off,d.lu⟩
 ·intro b l m g i v f k w z;rw[s (n b l f)];exact d.cell f k w z
 ·intro b l i f k;rw[s (n b l f),C (n b l f)];exact d.room f k
 ·intro b l f;rw[E];exact d.loc f
 ·intro b l o f k;obtain⟨A,B⟩:=d.cv f k;exact⟨A,B.mono (aO.le_refl p) (mm (fun e=>n b l f e.symm) x)⟩
theorem ah1:∀(a:List V) (i:Nat) (F:Fr) (t:Nat),(l5 a i F).get V.undef t=if i≤t∧t<i+a.length then(a[t-i]?).getD V.undef else F.get V.undef t:=by
 intro a;induction a with
 |nil=>intro i F t;rw[au aJ];rfl
 |cons v a d=>
  intro i F t;show(l5 a (i+1) (F.set V.undef i v)).get V.undef t=_;rw[d,bM.a_];simp only[di];by_cases b:i=t
  ·subst b;rw[au aa,ay rfl,ay aa];simp
  ·by_cases c:i+1≤t∧t<i+1+a.length
   ·rw[ay c,ay aa];have:t-i=(t-(i+1))+1:=aa;rw[this];simp
   ·rw[au c,au b,au aa]
def wF(tmps:Array Value):ResultVar→Sem Value
 |.tmp t=>pure (tmps.getD t undef)
 |.cell a t=>do loadVar t (←asAddr (tmps.getD a undef))
theorem ap0(a:Addr)(w:World):(asAddr (.pointer (some a))).run P w=.ok a w:=rfl
variable{b:List V}
theorem apG(hT:c4 P T){p:aO}{tmps:Array Value}(L:Rel p c q)(z:jd p o tmps){i:Func}(n:∀x∈i.results.toList,J' tmps.size x=true)(h:qj T o c i.results.toList=some b):
 ∃k,(results i tmps).run P q=.ok k q∧aS p (nD b) k:=by
 have key:∀(f:List ResultVar),(∀x∈f,J' tmps.size x=true)→∀b,qj T o c f=some b→∃d,(f.mapM (wF tmps)).run P q=.ok d q∧bC p b d:=by
  intro f;induction f with
  |nil=>intro _ b h;cases h;exact⟨[],rfl,.nil⟩
  |cons x f O=>
   intro n b h;obtain⟨v,j,h⟩:=aD.1 (show av (Ka T o c x) (fun v=>av (qj T o c f) fun r=>some (v::r))=some b from h);obtain⟨Q,J,h⟩:=aD.1 h;cases h;obtain⟨d,l,m⟩:=O (fun y N=>n y (by simp[N])) Q J;have A:=n x aJ;cases x with
   |tmp t=>
    cases j;refine⟨tmps.getD t undef::d,?_,.cons (z t ((eN _ _).1 A)) m⟩;rw[List.mapM_cons];simp only[wF,c8,fC,dS];rw[l];rfl
   |cell a t=>
    obtain⟨g,I,j⟩:=aD.1 (show av (T.isAgg t) _=some v from j);obtain⟨s,M,j⟩:=aD.1 j;obtain⟨R,C,k,D,E⟩:=aaL hT L I M (z a ((eN _ _).1 A)) j;refine⟨k::d,?_,.cons E m⟩;rw[List.mapM_cons];have G:(wF tmps (.cell a t)).run P q=.ok k q:=by
     simp only[wF,c8,C,ap0,dS,D]
    rw[c8,G];simp only[dS,c8,l,fC]
 obtain⟨d,l,m⟩:=key _ n b h;have K:(i.results.mapM (wF tmps)).run P q=.ok ⟨d⟩ q:=by
  rw[Array.mapM_eq_mapM_toList];simp only[Sem.run_map,l,dS]
 refine⟨if h:(⟨d⟩:Array Value).size=1 then(⟨d⟩:Array Value)[0]else .tuple ⟨d⟩,?_,?_⟩
 ·have e:results i tmps=(do let w←i.results.mapM (wF tmps);pure (if h:w.size=1 then w[0]else .tuple w)):=rfl;rw[e,c8,K];rfl
 ·cases m with
  |nil=>exact .aK .nil
  |cons a u=>cases u with
   |nil=>simpa [nD]using a
   |cons u B=>
    rw[dif_neg aJ];exact .aK (.cons a (.cons u B))
theorem amO{p:Func}{tmps:Array Value}{φ:aO}{H H':ag}{w:World}{R:Ending→World→Prop}{ψ:aO}{v:V}(J:∀a,Rel ψ H' a→∃g,(results p tmps).run P a=.ok g a∧aS ψ v g)(E:∀g a,Ext φ H w ψ H' a→aS ψ v g→R (.returned g) a):
 ∀(ms:List Deferred) (a:World),Ext φ H w ψ H' a→Marks ψ a w.heap.size ms→LeavesInM (fw none) 0 P p tmps R ms .returning a:=by
 intro ms;induction ms with
 |nil=>
  intro a f _;obtain⟨g,m,q⟩:=J a f.rel;exact⟨g,m,E g a f q⟩
 |cons d ms n=>
  rintro a f ⟨⟨r,m,q,i,s,C⟩,D⟩;have N:r<a.heap.size:=(uX.1 i).1;refine⟨aJ,.inl ⟨r,jz a r (.deferred none),m,run_takeDeferred i,n _ ?_ ?_⟩⟩
  ·refine⟨ahu f.rel s (fun L t M e=>by rw[i]at e;cases e) _,f.le,f.fresh,f.mQ,f.next,?_,?_,f.same.trans (Kk i rfl aJ _),fun{b l} o y=>let⟨h,k⟩:=f.iU o y;⟨h,(mm (fun e=>s b l (f.le b l o) e.symm) _).trans k⟩,f.l6⟩
   ·intro c F I;rw[mm aa];exact f.kR F I
   ·show w.heap.size≤(jz a r (.deferred none)).heap.size;have:(jz a r (.deferred none)).heap.size=a.heap.size:=by simp[jz]
    rw[this];exact f.size
  ·have key:∀(ms:List Deferred),(∀j∈ms,j.target≠ .collected r)→Marks ψ a w.heap.size ms→Marks ψ (jz a r (.deferred none)) w.heap.size ms:=by
    intro ms;induction ms with
    |nil=>exact fun _ _=>trivial
    |cons x ms n=>
     rintro u ⟨⟨K,h,k,g3,z,A⟩,B⟩;refine⟨⟨K,h,k,?_,z,A⟩,n (fun j G=>u j (by simp[G])) B⟩;rw[mm ?_]
     ·exact g3
     ·intro e;subst e;exact u x aJ h
   exact key ms C D
variable{D:List Value}
theorem apH{c:aO}(h:bC c b D)(o:b.length≤a):jd c (l5 b 0 .nil) ((⟨D⟩:Array Value)++qx (a-(⟨D⟩:Array Value).size) undef):=by
 have m:=h.length;intro t k;have j:((⟨D⟩:Array Value)++qx (a-(⟨D⟩:Array Value).size) undef).size=a:=by simp;omega
 show aS c ((l5 b 0 bM.nil).get V.undef t) _;rw[ah1];rw[j]at k;by_cases i:t<b.length
 ·rw[ay aa];obtain⟨u,l,d,e,f⟩:=h.getD i;rw[Nat.sub_zero,d];have:((⟨D⟩:Array Value)++qx (a-(⟨D⟩:Array Value).size) undef).getD t undef=l:=by
   have g:=(fo.1 e).2;simp[Array.getElem?_append,(aa:t<D.length),g]
  show aS c u _;rw[this];exact f
 ·rw[au aa,bM.get_nil];have:((⟨D⟩:Array Value)++qx (a-(⟨D⟩:Array Value).size) undef).getD t undef=undef:=by
   simp[Array.getElem?_append,(aa:¬t<D.length)];rw[Array.getElem?_replicate];split<;>rfl
  rw[this];exact .aK .nil
variable{A:FuncId}{K:V→ag→Prop}
theorem Ic(hT:c4 P T)(cA:jo P N){fn:Func}{g:Code}(L:N.get aW A=some fn)(o:fn.body=some g)(a:and (qW G fn g) (b8 (cP b) fn.ntmps)=true)
 (h:hU P G c.next fn.ntmps false g (l5 b 0 .nil) c fun x k d=>(∀id,x≠ .exit id)∧∃l,qj T k d fn.results.toList=some l∧K (nD l) d):e6 P G (.fn A) b c K:=by
 rw[cz,eN,gx]at a;obtain⟨a,M⟩:=a;unfold qW at a;rw[cz,cz]at a;obtain⟨O,ab,S⟩:=a;have p:=cA A fn L;refine⟨⟨fn,g,p,o,by simpa using O⟩,?_⟩;intro j w f hr q m;have Z:=m.length;have U:((⟨f⟩:Array Value)++qx (fn.ntmps-(⟨f⟩:Array Value).size) undef).size=fn.ntmps:=by simp;omega
 refine(callsIn_wide (n:=0)).1 (callsIn_of_wp_marks (F:=fw none) p o trivial ?_ rfl);refine wpIn_mono (h j { tmps:=(⟨f⟩:Array Value)++qx (fn.ntmps-(⟨f⟩:Array Value).size) undef,defers:=[] } w none (fun _=>rfl) U hr (apH m M) q (q.next hr) (aR _)) ?_
 rintro e i s ⟨x,k,d,t,ms,rfl,u,g3,v,z,B,E,l,C,D⟩;have I:i.defers=ms:=by rw[z];simp
 have r:LeavesInM (fw none) 0 P fn i.tmps (Post j c w K) i.defers .returning s:=by
  rw[I];refine amO (ψ:=t) (H':=d) (v:=nD l) (φ:=j) (H:=c) (w:=w) ?_ ?_ ms s (u.full hr) B
  ·intro Y R;exact apG hT R g3 (by rw[v];exact fun y W=>sw.1 S y W) C
  ·intro X Y J V;exact⟨nD l,X,d,t,rfl,J,V,D⟩
 cases x with
 |norm=>exact r
 |ret=>exact r
 |exit id=>exact absurd rfl (E id)
end
section
variable {P:Program}{N:eF}{T:cE}{G:Nat}{O:jl}
def nG(P:Program)(G:Nat)(cf:jl):Prop:=∀ {t b H v a},cf t b H=some (v,a)→e6 P G t b H fun d c=>d=v∧c=a
theorem aa_:nG P G o5:=fun h=>by cases h
def xl(P:Program)(G:Nat)(run:th):Prop:=∀ {B n:Nat}{rd:Bool}{c:Code}{F:Fr}{H:ag}{x:X}{a:Fr}{b:ag},codeOk G n c=true→run n rd c F H=.ok x a b→
 hU P G B n rd c F H fun f d e=>f=x∧d=a∧e=b
variable{o:Fr}{c:ag}
theorem andThen_ok{r:hC}{k:Fr→ag→hC}{x:X}(h:andThen r k=.ok x o c):(∃a b,r=.ok .norm a b∧k a b=.ok x o c)∨(r=.ok x o c∧x≠ .norm):=by
 cases r with
 |fail=>cases h
 |ok y a b=>
  cases y with
  |norm=>exact .inl ⟨a,b,rfl,h⟩
  |exit id=>cases h;exact .inr ⟨rfl,aJ⟩
  |ret=>cases h;exact .inr ⟨rfl,aJ⟩
variable{J:ag}{f:Fr→ag→Prop}
theorem aqL{cf:jl}(z:nG P G cf){s:Step}{d:Fr}(h:exec cf s o c=some (d,J))(i:f d J):iP P G s o c f:=by
 cases a:s.want o with
 |none=>unfold exec at h;rw[a]at h;cases h
 |some b=>
  cases b with
  |false=>
   unfold exec at h;rw[a]at h;cases h;exact .inl ⟨a,i⟩
  |true=>
   refine .inr ⟨a,?_⟩;have C:=h;unfold exec at h;rw[a]at h;cases e:s.cop with
   |call j g=>
    have p:av (g (vals j o)) (fun k=>av (cf k.1 k.2 c) fun r=>some (put o s.dst r.1,r.2))=some (d,J):=by simpa [e]using h
    obtain⟨⟨t,l⟩,q,u⟩:=aD.1 p;obtain⟨⟨v,A⟩,w,y⟩:=aD.1 u;cases y;exact⟨t,l,q,(z w).mono fun D B ⟨m,n⟩=>by rw[m,n];exact i⟩
   |lF x=>simp[e]at h
   |bad=>simp[e]at h
   |pu j g=>exact⟨d,J,by unfold exec;rw[a];simpa [e]using h,i⟩
   |rd j g=>exact⟨d,J,by unfold exec;rw[a];simpa [e]using h,i⟩
   |gb j g=>exact⟨d,J,by unfold exec;rw[a];simpa [e]using h,i⟩
theorem ap2{cf:jl}(g:nG P G cf):∀ {l:List b_}{F a:Fr}{H b:ag}{Q:Fr→ag→Prop},rm cf l F H=some (a,b)→Q a b→fZ P G l F H Q:=by
 intro l;induction l with
 |nil=>intro F a H b Q h c;cases h;exact c
 |cons i l f=>
  intro F a H b Q h c;cases i with
  |ex s=>
   obtain⟨⟨j,k⟩,d,e⟩:=aD.1 (show av (exec cf s F H) (fun r=>rm cf l r.1 r.2)=some (a,b)from h);exact aqL g d (f e c)
  |re s=>
   obtain⟨d,e⟩:=cS.1 (show bq (again s F H) (rm cf l F H)=some (a,b)from h);exact⟨adW d,f e c⟩
variable{A:FuncId}{b:List V}
theorem afu(hT:c4 P T)(cA:jo P N){run:th}(q:xl P G run){v:V}(h:Ib G N T run A b c=some (v,J)):e6 P G (.fn A) b c fun r a=>r=v∧a=J:=by
 obtain⟨d,p,h⟩:=aD.1 (show av (N.get aW A) _=some (v,J)from h);obtain⟨j,n,h⟩:=aD.1 h;obtain⟨k,h⟩:=cS.1 h;have m:=k;rw[cz]at m;have o:codeOk G d.ntmps j=true:=by
  have:=m.1;unfold qW at this;rw[cz,cz]at this;exact this.2.1
 cases g:run d.ntmps false j (l5 b 0 .nil) c with
 |fail=>rw[g]at h;cases h
 |ok x t u=>
  rw[g]at h;refine Ic hT cA p n k ((q o g).mono ?_);rintro s i a ⟨rfl,rfl,rfl⟩;cases s with
  |exit id=>cases h
  |norm=>
   obtain⟨l,f,e⟩:=aD.1 (show av (qj T i a d.results.toList) (fun l=>some (nD l,a))=some (v,J)from h);cases e;exact⟨aJ,l,f,rfl,rfl⟩
  |ret=>
   obtain⟨l,f,e⟩:=aD.1 (show av (qj T i a d.results.toList) (fun l=>some (nD l,a))=some (v,J)from h);cases e;exact⟨aJ,l,f,rfl,rfl⟩
theorem Yj(hT:c4 P T)(cA:jo P N)(e:nG P G O){run:th}(g:xl P G run):nG P G (vF G N T O run):=by
 intro t b H v d h
 have a:Option.casesOn (motive:=fun _=>Option (V×ag)) (O t b H)
  (nQ.casesOn (motive:=fun _=>Option (V×ag)) t (fun f=>Ib G N T run f b H)) some=some (v,d):=h
 cases c:O t b H with
 |some r=>
  rw[c]at a;cases a;exact e c
 |none=>
  rw[c]at a;cases t with
  |fn f=>exact afu hT cA g a
theorem ap1(hT:c4 P T)(cA:jo P N)(X:nG P G O)(fJ:P.follows .mixedOrders=true):∀a,xl P G (run G N T O a):=by
 intro a;induction a using jb with
 |_ a S=>
  cases a with
  |zero=>intro B n rd c F H x g j _ h;cases h
  |succ a=>
   have o:xl P G (run G N T O a):=S a aa;intro B n rd c F H x g j v h;have Y:nG P G (vF G N T O (run G N T O a)):=Yj hT cA X o;cases c with
   |skip=>cases h;exact Dp ⟨rfl,rfl,rfl⟩
   |region id U M=>
    have b:abY (av (plan N T U.toList M) fun l=>rm (vF G N T O (run G N T O a)) l F H)=.ok x g j:=h;cases J:av (plan N T U.toList M) (fun l=>rm (vF G N T O (run G N T O a)) l F H)with
    |none=>rw[J]at b;cases b
    |some q=>
     rw[J]at b;cases b;obtain⟨l,Z,I⟩:=aD.1 J;exact Dk hT cA fJ v Z (ap2 Y I ⟨rfl,rfl,rfl⟩)
   |seq s u=>
    have k:and (codeOk G n s) (codeOk G n u)=true:=v;rw[cz]at k;refine Dn ?_;rcases andThen_ok (show andThen (run G N T O a n rd s F H) (run G N T O a n rd u)=.ok x g j from h)with⟨w,A,p,d⟩|⟨p,d⟩
    ·refine(o k.1 p).mono ?_;rintro r z C ⟨rfl,rfl,rfl⟩;exact o k.2 d
    ·refine(o k.1 p).mono ?_;rintro r z C ⟨rfl,rfl,rfl⟩;cases r with
     |norm=>exact absurd rfl d
     |exit id=>exact⟨rfl,rfl,rfl⟩
     |ret=>exact⟨rfl,rfl,rfl⟩
   |cond y s u=>
    have k:and (sG G n y) (and (codeOk G n s) (codeOk G n u))=true:=v;rw[cz,cz]at k;have b:Kh (run G N T O a n rd) y s u F H=.ok x g j:=h;unfold Kh at b;cases L:gQ y with
    |none=>rw[L]at b;cases b
    |some f=>
     rw[L]at b;have d:(match f F with|.bool t=>Bool.casesOn (motive:=fun _=>hC) t (run G N T O a n rd u F H) (run G N T O a n rd s F H)|_=>.fail)=.ok x g j:=b;cases Q:f F<;>rw[Q]at d<;>first|(cases d;done)|skip
     rename_i t;refine xq k.1 L Q ?_;cases t with
     |true=>exact o k.2.1 d
     |false=>exact o k.2.2 d
   |block id c=>
    have b:Z9 id (run G N T O a n rd c F H)=.ok x g j:=h;have D:codeOk G n c=true:=v;refine Dg ?_;cases K:run G N T O a n rd c F H with
    |fail=>rw[K]at b;cases b
    |ok y w A=>
     rw[K]at b;refine(o D K).mono ?_;rintro r z C ⟨rfl,rfl,rfl⟩;cases r with
     |norm=>cases b;exact⟨rfl,rfl,rfl⟩
     |ret=>cases b;exact⟨rfl,rfl,rfl⟩
     |exit i=>
      have d:Bool.casesOn (motive:=fun _=>hC) (bK i id) (.ok (.exit i) z C) (.ok .norm z C)=hC.ok x g j:=b;show if i=id then _ else _
      by_cases E:i=id
      ·rw[(beq_eq _ _).2 E]at d;cases d;rw[ay E];exact⟨rfl,rfl,rfl⟩
      ·rw[mB.2 (fun e=>E ((beq_eq _ _).1 e))]at d;cases d;rw[au E];exact⟨rfl,rfl,rfl⟩
   |loop c=>
    have D:codeOk G n c=true:=v;refine Dj (fun m w A=>m≤a+1∧run G N T O m n rd (.loop c) w A=.ok x g j) ?_ (k:=a+1) ⟨aR _,h⟩;rintro m w A ⟨hm,I⟩;cases m with
    |zero=>cases I
    |succ m=>
     have R:xl P G (run G N T O m):=S m aa;rcases andThen_ok (show andThen (run G N T O m n rd c w A) (run G N T O m n rd (.loop c))=.ok x g j from I)with⟨z,C,p,d⟩|⟨p,d⟩
     ·refine(R D p).mono ?_;rintro r V W ⟨rfl,rfl,rfl⟩;exact⟨m,aa,aa,d⟩
     ·refine(R D p).mono ?_;rintro r V W ⟨rfl,rfl,rfl⟩;cases r with
      |norm=>exact absurd rfl d
      |exit id=>exact⟨rfl,rfl,rfl⟩
      |ret=>exact⟨rfl,rfl,rfl⟩
   |rangeFunc _ _ _ _=>cases h
   |exit id=>cases h;exact Dh ⟨rfl,rfl,rfl⟩
   |label l=>cases h;exact Di ⟨rfl,rfl,rfl⟩
   |ret=>cases h;exact Dl ⟨rfl,rfl,rfl⟩
   |scope c=>
    cases rd with
    |true=>cases h
    |false=>exact Dm (o (show codeOk G n c=true from v) (show run G N T O a n false c F H=.ok x g j from h))
   |goto _=>cases h
   |refuse _=>cases h
theorem Yn(hT:c4 P T)(cA:jo P N)(b:nG P G O)(fJ:P.follows .mixedOrders=true)(a:Nat):nG P G (Ia G N T O a):=Yj hT cA b (ap1 hT cA b fJ a)
end
variable{h:Type}
theorem ara:∀(l:List h) (k:Nat) (t:bM (Option h)) (i:Nat),(uR l k t).get none i=if k≤i∧i<k+l.length then l[i-k]? else t.get none i:=by
 intro l;induction l with
 |nil=>intro k t i;rw[au aJ];rfl
 |cons a l d=>
  intro k t i;show(uR l (k+1) (t.set none k (some a))).get none i=_;rw[d,bM.a_];simp only[di];by_cases b:k=i
  ·subst b;rw[au aa,ay rfl,ay aa];simp
  ·by_cases c:k+1≤i∧i<k+1+l.length
   ·rw[ay c,ay aa];have:i-k=(i-(k+1))+1:=aa;rw[this];simp
   ·rw[au c,au b,au aa]
variable{a:Nat}
theorem ac1{l:List h}{x:h}(b:(uR l 0 .nil).get none a=some x):l[a]? =some x:=by
 rw[ara]at b;split at b
 ·simpa using b
 ·rw[bM.get_nil]at b;cases b
theorem ahY(P:Program):jo P (ZD P):=by
 intro f a h;have:=ac1 (show(uR P.funcs.toList 0 .nil).get none f=some a from h);simpa using this
theorem aru(P:Program):c4 P (ac9 P):=by
 refine⟨?_⟩;intro t i h;have b:=ac1 (show(uR P.types.toList 0 .nil).get none t=some i from h);have a:P.types[t]? =some i:=by simpa using b
 have c:t<P.types.size:=(uX.1 a).1;unfold Tables.info?;rw[ay c];exact a
def aO.view(a:aO)(c:Nat→Nat)(k:Nat):aO:=⟨fun b=>if b<k then a (c b)else none,a.im⟩
variable{g:Nat}
theorem aO.adj{c:aO}{b:Nat→Nat}:c.view b a g=if g<a then c (b g)else none:=rfl
theorem aO.mw{c:aO}{b:Nat→Nat}{l:Loc}(h:c.view b a g=some l):g<a∧c (b g)=some l:=by
 rw[aO.adj]at h;split at h
 ·exact⟨by assumption,h⟩
 ·cases h
theorem aO.rG{c:aO}{b:Nat→Nat}{l:Loc}(d:g<a)(h:c (b g)=some l):c.view b a g=some l:=by
 rw[aO.adj,ay d];exact h
mutual
inductive gX (σ:Nat→Nat) (k:Nat):V→V→Prop
 |bool (b:Bool):gX σ k (.bool b) (.bool b)
 |int (i:IntKind) (n:Int):gX σ k (.int i n) (.int i n)
 |str (s:List UInt8):gX σ k (.str s) (.str s)
 |ptr {b:Nat} (o:Nat) (h:b<k):gX σ k (.ptr (σ b) o) (.ptr b o)
 |ie:gX σ k .ie .ie
 |slice {b:Nat} (o len:Nat) (cap:Cap) (h:b<k):gX σ k (.slice (σ b) o len cap) (.slice b o len cap)
 |aqt {b:Nat} (o len:Nat) (cap:Cap) (h:b<k):gX σ k (.slice (σ b) o len cap) (.slice b o len .mg)
 |ak:gX σ k .ak .ak
 |emp:gX σ k .emp .emp
 |map {b:Nat} (h:b<k):gX σ k (.map (σ b)) (.map b)
 |jw:gX σ k .jw .jw
 |func (f:FuncId) {xs ys xs' ys':List V} (h1:jF σ k xs xs') (h2:jF σ k ys ys'):gX σ k (.func f xs ys) (.func f xs' ys')
 |jU:gX σ k .jU .jU
 |jV:gX σ k .jV .jV
 |agg {xs xs':List V} (h:jF σ k xs xs'):gX σ k (.agg xs) (.agg xs')
 |aK {xs xs':List V} (h:jF σ k xs xs'):gX σ k (.aK xs) (.aK xs')
 |any (v:V):gX σ k v .any
 |cell {v:V} (h:v.one=true):gX σ k v .cell
 |row (n:Nat) {cs cs':List V} (h:jF σ k cs cs'):gX σ k (.row n cs) (.row n cs')
 |fQ:gX σ k .ak (.row 0 [])
 |Cn:gX σ k .emp (.row 0 [])
 |Cm:gX σ k .gu (.row 0 [])
 |dm (j:Nat) {cs cs':List V} (h:jF σ k cs cs'):gX σ k (.dm cs j) (.dm cs' j)
 |gu:gX σ k .gu .gu
inductive jF (σ:Nat→Nat) (k:Nat):List V→List V→Prop
 |nil:jF σ k [] []
 |cons {v v':V}{vs vs':List V} (h:gX σ k v v') (h':jF σ k vs vs'):jF σ k (v::vs) (v'::vs')
end
mutual
theorem aS.view{φ:aO}{σ:Nat→Nat}{k:Nat}:∀ {v v2:V}{v':Value},gX σ k v v2→aS φ v v'→aS (φ.view σ k) v2 v'
 |_,_,_,.bool b,.bool _=>.bool b
 |_,_,_,.int i n,.int _ _=>.int i n
 |_,_,_,.str s,.str _=>.str s
 |_,_,_,.ptr o h,.ptr e=>.ptr (aO.rG h e)
 |_,_,_,.ie,.ie=>.ie
 |_,_,_,.slice o len cap h,.slice e h1 h2=>.slice (aO.rG h e) h1 h2
 |_,_,_,.aqt o len cap h,.slice e h1 _=>.slice (aO.rG h e) h1 trivial
 |_,_,_,.ak,.ak=>.ak
 |_,_,_,.emp,.emp a c=>.emp a c
 |_,_,_,.map h,.map e=>.map (aO.rG h e)
 |_,_,_,.jw,.jw=>.jw
 |_,_,_,.func f h1 h2,.func _ g1 g2=>.func f (bC.view h1 g1) (bC.view h2 g2)
 |_,_,_,.jU,.jU=>.jU
 |_,_,_,.jV,.jV=>.jV
 |_,_,_,.agg h,.agg g=>.agg (bC.view h g)
 |_,_,_,.aK h,.aK g=>.aK (bC.view h g)
 |_,_,v',.any _,_=>.any v'
 |_,_,_,.cell h,g=>.cell (abh g h)
 |_,_,_,.row _ .nil,.e4 a c h=>.e4 a c h
 |_,_,_,.row _ h,.row e g1 g2 g3=>.row e (bC.view h g1) g2 g3
 |_,_,_,.fQ,.ak=>.e4 none 0 (fun _=>rfl)
 |_,_,_,.Cn,.emp a c=>.e4 (some a) c (fun h=>by cases h)
 |_,_,_,.Cm,.gu a=>.e4 a 0 (fun _=>rfl)
 |_,_,_,.dm _ h,.dm e g1 g2=>.dm e (bC.view h g1) g2
 |_,_,_,.gu,.gu a=>.gu a
theorem bC.view{φ:aO}{σ:Nat→Nat}{k:Nat}:∀ {a b:List V}{c:List Value},jF σ k a b→bC φ a c→bC (φ.view σ k) b c
 |_,_,_,.nil,.nil=>.nil
 |_,_,_,.cons h h',.cons g g'=>.cons (aS.view h g) (bC.view h' g')
end
section
variable {P:Program}{G B n:Nat}{rd:Bool}{c:Code}{F C5:Fr}{H H2:ag}{Q:X→Fr→ag→Prop}
end
section
variable {G:Nat}{σ:Nat→Nat}{φ ψ:aO}{H H2 H':ag}{w w':World}
end
section
variable {P:Program}{G:Nat}
end
def rH(n:Nat):V→V→Bool:=
 Nat.rec (motive:=fun _=>V→V→Bool) (fun _ _=>false) (fun _ c a b=>match a with
  |.any=>(match b with|.any=>true|_=>false)
  |.cell=>(match b with|.cell=>true|_=>false)
  |.func f x y=>(match b with|.func g z t=>and (bK f g) (and (fE c x z) (fE c y t))|_=>false)
  |.agg x=>(match b with|.agg y=>fE c x y|_=>false)
  |.aK x=>(match b with|.aK y=>fE c x y|_=>false)
  |a=>qu 1 a b) n
theorem KR:∀n a b,rH n a b=true→a=b:=by
 intro n;induction n with
 |zero=>intro a b h;cases h
 |succ n d=>
  intro a b h;cases a<;>first|exact KP 1 _ _ h|skip
  case any=>cases b<;>first|rfl|cases h
  case cell=>cases b<;>first|rfl|cases h
  case func f x y=>
   cases b<;>first|(cases h;done)|skip
   have c:and (bK _ _) (and (fE (rH n) _ _) (fE (rH n) _ _))=true:=h;rw[cz,cz,beq_eq]at c;rw[c.1,mR d _ _ c.2.1,mR d _ _ c.2.2]
  case agg x=>
   cases b<;>first|(cases h;done)|skip
   rw[mR d _ _ h]
  case aK x=>
   cases b<;>first|(cases h;done)|skip
   rw[mR d _ _ h]
def JJ(a b:Option Nat):Bool:=match a with
 |some x=>(match b with|some y=>bK x y|_=>false)
 |.none=>(match b with|.none=>true|_=>false)
variable{j:Option Nat}
theorem aog{b:Option Nat}(h:JJ j b=true):j=b:=by
 cases j<;>cases b<;>first|rfl|(cases h;done)|skip
 exact congrArg some ((beq_eq _ _).1 h)
variable{d:List Nat}
theorem anN{b:List Nat}(h:fE bK d b=true):d=b:=mR (fun _ _ h=>(beq_eq _ _).1 h) _ _ h
abbrev vL:Nat:=12
def abq(a b:nj):Bool:=match a with
 |.map e=>(match b with|.map f=>fE (fun x y=>and (rH vL x.1 y.1) (rH vL x.2 y.2)) e f|_=>false)
 |.iter m s l c t=>(match b with|.iter h i g d j=>and (and (bK m h) (bK s i)) (and (fE bK l g) (and (JJ c d) (bK t j)))|_=>false)
 |.ro _=>false
theorem aoo{a b:nj}(h:abq a b=true):a=b:=by
 cases a<;>cases b<;>first|(cases h;done)|skip
 case map.map o p=>
  refine congrArg nj.map (mR (fun x y h=>?_) _ _ h);have d:and (rH vL x.1 y.1) (rH vL x.2 y.2)=true:=h;rw[cz]at d;exact Prod.ext (KR _ _ _ d.1) (KR _ _ _ d.2)
 case iter.iter m s l c t j k i e n=>
  have d:and (and (bK m j) (bK s k)) (and (fE bK l i) (and (JJ c e) (bK t n)))=true:=h;rw[cz,cz,cz,cz,beq_eq,beq_eq,beq_eq]at d;obtain⟨⟨rfl,rfl⟩,f,g,rfl⟩:=d;rw[anN f,aog g]
def tr(a b:eg):Bool:=match a with
 |.none=>(match b with|.none=>true|_=>false)
 |.cells c g=>(match b with|.cells d e=>and (bK g e) (fE (rH vL) c d)|_=>false)
 |.b5 x y=>(match b with|.b5 h i=>and (bK x h) (bK y i)|_=>false)
 |.cv o=>(match b with|.cv f=>abq o f|_=>false)
theorem Dx{a b:eg}(h:tr a b=true):a=b:=by
 cases a<;>cases b<;>first|rfl|(cases h;done)|skip
 case cells.cells d g e f=>
  have c:and (bK g f) (fE (rH vL) d e)=true:=h;rw[cz,beq_eq]at c;rw[c.1,mR (KR _) _ _ c.2]
 case b5.b5 x y i j=>
  have c:and (bK x i) (bK y j)=true:=h;rw[cz,beq_eq,beq_eq]at c;rw[c.1,c.2]
 case cv.cv o k=>exact congrArg eg.cv (aoo h)
section
mutual
inductive cr (H H2:ag):V→V→Prop
 |same (v:V):cr H H2 v v
 |any (v:V):cr H H2 v .any
 |row {b o n m:Nat}{cap:Cap}{cs iQ:List V} (h:H.dw b o m=some cs) (h0:0<m) (h1:H2.get b=.none) (h2:dy H H2 cs iQ):cr H H2 (.slice b o n cap) (.row n iQ)
 |e4 (b o:Nat) (cap:Cap):cr H H2 (.slice b o 0 cap) (.row 0 [])
 |fQ:cr H H2 .ak (.row 0 [])
 |Cn:cr H H2 .emp (.row 0 [])
 |Cm:cr H H2 .gu (.row 0 [])
 |agg {xs ys:List V} (h:dy H H2 xs ys):cr H H2 (.agg xs) (.agg ys)
 |aK {xs ys:List V} (h:dy H H2 xs ys):cr H H2 (.aK xs) (.aK ys)
inductive dy (H H2:ag):List V→List V→Prop
 |nil:dy H H2 [] []
 |cons {x y:V}{xs ys:List V} (h:cr H H2 x y) (h':dy H H2 xs ys):dy H H2 (x::xs) (y::ys)
end
variable{J:ag}
theorem dy.refl{H2:ag}:∀l:List V,dy J H2 l l
 |[]=>.nil
 |v::l=>.cons (.same v) (dy.refl l)
def s6(φ:aO)(H H2:ag)(w:World)(c:Nat):Prop:=∃b l,φ b=some l∧l.c=c∧H.get b≠ .none∧H2.get b=.none∧∃a t d,w.heap[c]? =some (.cells a t d)
open Classical in
def aO.dr(φ:aO)(H H2:ag)(w:World):aO:=⟨φ.f,fun c=>if s6 φ H H2 w c then w.heap[c]? else φ.im c⟩
variable{q:World}
theorem IY{φ:aO}{H2:ag}(h:s6 φ J H2 q a):(φ.dr J H2 q).im a=q.heap[a]? :=ay h
theorem IZ{φ:aO}{H2:ag}(h:¬s6 φ J H2 q a):(φ.dr J H2 q).im a=φ.im a:=au h
section
variable {P:Program}{φ:aO}{H H2:ag}{w:World}
theorem tZ(a:Rel φ H w):φ.le (φ.dr H H2 w):=by
 refine⟨fun _ _ e=>e,fun c x e=>?_⟩;by_cases h:s6 φ H H2 w c
 ·rw[IY h];exact(a.fj e).obj
 ·rw[IZ h];exact e
structure Cut (B:Nat) (H H2:ag):Prop where
 sub:∀y,H2.get y=H.get y∨(B≤y∧H2.get y=.none)
 next:H2.next=H.next
 b5:∀y y' cs cs' g,g≠0→H.get y=.cells cs g→H.get y'=.cells cs' g→H2.get y=.none→H2.get y'=.none
theorem Cut.old{B:Nat}(a:Cut B H H2){y:Nat}(h:H2.get y≠ .none):H2.get y=H.get y:=(a.sub y).resolve_right fun e=>h e.2
theorem Cut.low{B:Nat}(b:Cut B H H2)(h:a<B):H2.get a=H.get a:=(b.sub a).resolve_right fun e=>aa
theorem Rel.cut{B:Nat}(h:Rel φ H w)(f:Cut B H H2):Rel (φ.dr H H2 w) H2 w:=by
 have G:=tZ (H2:=H2) h;have s:∀ {y:Nat}{p:List V}{g:Nat},H2.get y=.cells p g→H.get y=.cells p g:=fun{y p g} e=>by rw[←f.old (y:=y) (by rw[e];simp)];exact e
 have A:∀ {y a b:Nat},H2.get y=.b5 a b→H.get y=.b5 a b:=fun{y a b} e=>by rw[←f.old (y:=y) (by rw[e];simp)];exact e
 refine⟨?_,h.room,fun j d=>h.len j (s d),?_,?_,h.loc,fun j d k=>h.mem (s j) d (A k),fun e=>h.lp (A e),?_,?_,fun e=>by rw[f.next];exact h.lu (s e)⟩
 ·intro b l p g i v j d k u;have R:H.gh b g=true:=by
   rcases gi.1 k with e|⟨a,c,K,L⟩
   ·exact gi.2 (.inl e)
   ·exact gi.2 (.inr ⟨a,c,A K,L⟩)
  obtain⟨W,m,n⟩:=h.cell j (s d) R u;exact⟨W,m,n.mono G⟩
 ·intro b E l C j d k u;rcases h.inj j d k u with⟨p,J,g,m,n,r⟩|⟨U,D⟩
  ·by_cases q:H2.get b=.none
   ·exact .inr ⟨q,f.b5 _ _ _ _ _ m n r q⟩
   ·have Q:H2.get E≠ .none:=fun e=>q (f.b5 _ _ _ _ _ m r n e)
    exact .inl ⟨p,J,g,m,by rw[f.old q];exact n,by rw[f.old Q];exact r⟩
  ·refine .inr ⟨?_,?_⟩
   ·rcases f.sub b with e|e
    ·rw[e];exact U
    ·exact e.2
   ·rcases f.sub E with e|e
    ·rw[e];exact D
    ·exact e.2
 ·intro b q;rw[f.next]at q
  obtain⟨m,n⟩:=h.top q;refine⟨m,?_⟩;rcases f.sub b with e|e
  ·rw[e];exact n
  ·exact e.2
 ·intro b l o j d;have k:H.get b=.cv o:=by rw[←f.old (y:=b) (by rw[d];simp)];exact d
  obtain⟨M,N⟩:=h.cv j k;exact⟨M,N.mono G rfl⟩
 ·intro c x e;by_cases z:s6 φ H H2 w c
  ·rw[IY z]at e;obtain⟨b,l,m,n,r,F,p,t,O,P⟩:=z;refine⟨e,⟨p,t,O,Option.some.inj (e.symm.trans P)⟩,?_⟩;intro y C j d;by_cases I:y=b
   ·subst I;exact F
   ·rcases h.inj j m (d.trans n.symm) I with⟨X,Y,g,S,T,cu⟩|⟨_,D⟩
    ·exact f.b5 _ _ _ _ _ S cu T F
    ·exact absurd D r
  ·rw[IZ z]at e;refine(h.fj e).keep rfl ?_;intro y C j d;have:=(h.fj e).off y C j d;rcases f.sub y with k|k
   ·rw[k];exact this
   ·exact k.2
theorem Rel.vR{B:Nat}(k:Rel φ H w)(d:Cut B H H2)(t:B≤H.next):mC B φ H w (φ.dr H H2 w) H2 w:=by
 refine⟨k.cut d,fun _ e=>e,?_,?_,by rw[d.next];exact t,fun _ _=>rfl,aR _,gW.refl w,?_,fun c x e=>(tZ k).im c x e,?_,?_⟩
 rotate_left 3
 ·intro c x e;by_cases n:s6 φ H H2 w c
  ·obtain⟨b,l,h,i,s,_⟩:=n;exact .inr (.inr ⟨b,l,h,i,s⟩)
  ·rw[IZ n]at e;exact .inl e
 ·intro b f l y o m _ p r;have q:φ f=some y:=p;have v:H.get f=.none:=by
   by_cases a:f=b
   ·rw[a];exact m
   ·rcases k.inj q o r a with⟨_,_,g,_,_,cu⟩|⟨z,_⟩
    ·rw[m]at cu;cases cu
    ·exact z
  rcases d.sub f with e|e
  ·rw[e];exact v
  ·exact e.2
 ·intro b l h i;have j:φ b=some l:=i;refine⟨ja fun u=>?_,.inr ⟨b,l,j,rfl⟩⟩;rw[h u]at j;cases j
 ·intro b a _ _;exact d.low a
 ·intro b l a _ e;exact⟨by rw[d.low a];exact e,rfl⟩
mutual
theorem aS.dr{B:Nat}(hr:Rel φ H w)(hc:Cut B H H2):∀ {v v2:V}{v':Value},cr H H2 v v2→aS φ v v'→aS (φ.dr H H2 w) v2 v'
 |_,_,_,.same _,r=>r.mono (tZ hr)
 |_,_,v',.any _,_=>.any v'
 |_,_,_,.e4 _ _ _,.slice _ _ _=>.e4 _ _ (fun h=>by cases h)
 |_,_,_,.fQ,.ak=>.e4 none 0 (fun _=>rfl)
 |_,_,_,.Cn,.emp a c=>.e4 (some a) c (fun h=>by cases h)
 |_,_,_,.Cm,.gu a=>.e4 a 0 (fun _=>rfl)
 |_,_,_,.agg h,.agg g=>.agg (bC.dr hr hc h g)
 |_,_,_,.aK h,.aK g=>.aK (bC.dr hr hc h g)
 |_,_,_,.row (cs:=cs) h h0 h1 h2,.slice (l:=l) hb hl hcap=>by
  obtain⟨vs',e1,e2,Bk⟩:=wk hr hb h;have hlt:0<vs'.length:=aa;have hcell:=Bk 0 _ (cH hlt);have sq:∃x,w.heap[l.c]? =some x∧∃cs t fr,x=.cells cs t fr:=by
   unfold World.cell? at hcell;cases ho:w.heap[l.c]? with
   |none=>simp only[ho]at hcell;cases hcell
   |some x=>
    refine⟨x,rfl,?_⟩;simp only[ho]at hcell;cases x<;>first|(cases hcell;done)|exact⟨_,_,_,rfl⟩
  obtain⟨x,hx,cs0,t,fr,ajl⟩:=sq;have hne:H.get _≠ .none:=fun e=>by
   obtain⟨Ba,k1,_⟩:=aD.1 h;obtain⟨g,k2,_⟩:=cells?_some k1;rw[e]at k2;cases k2
  have hg:s6 φ H H2 w l.c:=⟨_,l,hb,rfl,hne,h1,cs0,t,fr,by rw[hx,ajl]⟩;refine .row (by rw[IY hg];exact hx) (bC.dr hr hc h2 e2) ?_ hl;intro i v hi w2 c2 ajk;have:=Bk i v hi;unfold World.cell? at this⊢;simp only[hx]at this;simp only[ajk];exact this
theorem bC.dr{B:Nat}(hr:Rel φ H w)(hc:Cut B H H2):∀ {a b:List V}{c:List Value},dy H H2 a b→bC φ a c→bC (φ.dr H H2 w) b c
 |_,_,_,.nil,.nil=>.nil
 |_,_,_,.cons h h',.cons g g'=>.cons (aS.dr hr hc h g) (bC.dr hr hc h' g')
end
end
section
variable {P:Program}{G B n:Nat}{rd:Bool}{c:Code}{F C5:Fr}{H H2:ag}{Q:X→Fr→ag→Prop}
theorem adI(b:Cut B H H2)(p:∀t,t<n→cr H H2 (F.get V.undef t) (C5.get V.undef t))(h:hU P G B n rd c C5 H2 Q):hU P G B n rd c F H Q:=by
 intro φ a w r l f g m o j i;have d:=g.vR b i;refine wpIn_mono (h _ a w r l f d.rel (fun t k=>aS.dr g b (p t (by rw[←f];exact k)) (m t k)) (o.ext j d) j (by rw[b.next];exact i)) ?_
 intro e s u q;exact j5.after (ms:=[]) d rfl trivial q
end
end
def ag.zero(G:Nat):ag:=⟨.nil,G⟩
theorem ag.gf(G b:Nat):(ag.zero G).get b=.none:=bM.get_nil _ _
mutual
inductive bZ:V→Prop
 |bool (b:Bool):bZ (.bool b)
 |int (k:IntKind) (n:Int):bZ (.int k n)
 |str (s:List UInt8):bZ (.str s)
 |ie:bZ .ie
 |ak:bZ .ak
 |emp:bZ .emp
 |jw:bZ .jw
 |func (f:FuncId) {xs ys:List V} (h1:cM xs) (h2:cM ys):bZ (.func f xs ys)
 |jU:bZ .jU
 |jV:bZ .jV
 |agg {xs:List V} (h:cM xs):bZ (.agg xs)
 |aK {xs:List V} (h:cM xs):bZ (.aK xs)
 |any:bZ .any
 |cell:bZ .cell
 |row (n:Nat) {xs:List V} (h:cM xs):bZ (.row n xs)
 |dm (k:Nat) {xs:List V} (h:cM xs):bZ (.dm xs k)
 |gu:bZ .gu
inductive cM:List V→Prop
 |nil:cM []
 |cons {v:V}{vs:List V} (h:bZ v) (h':cM vs):cM (v::vs)
end
theorem cM.iff:∀ {l:List V},cM l↔∀v∈l,bZ v
 |[]=>⟨fun _ v h=>by simp at h,fun _=>.nil⟩
 |v::l=>⟨fun h x hx=>by
   cases h with
   |cons h a=>
    rcases gL.1 hx with rfl|hx
    ·exact h
    ·exact cM.iff.1 a x hx,fun h=>.cons (h v aJ) (cM.iff.2 fun x hx=>h x (by simp[hx]))⟩
mutual
theorem aS.free{φ ψ:aO}(hi:∀c x,φ.im c=some x→ψ.im c=some x):∀ {v:V}{v':Value},bZ v→aS φ v v'→aS ψ v v'
 |_,_,.bool _,.bool b=>.bool b
 |_,_,.int _ _,.int k n=>.int k n
 |_,_,.str _,.str s=>.str s
 |_,_,.ie,.ie=>.ie
 |_,_,.ak,.ak=>.ak
 |_,_,.emp,.emp a c=>.emp a c
 |_,_,.jw,.jw=>.jw
 |_,_,.func _ h1 h2,.func f g1 g2=>.func f (bC.free hi h1 g1) (bC.free hi h2 g2)
 |_,_,.jU,.jU=>.jU
 |_,_,.jV,.jV=>.jV
 |_,_,.agg h,.agg g=>.agg (bC.free hi h g)
 |_,_,.aK h,.aK g=>.aK (bC.free hi h g)
 |_,v',.any,.any _=>.any v'
 |_,_,.cell,.cell h=>.cell h
 |_,_,.row _ _,.e4 a c h=>.e4 a c h
 |_,_,.row _ h,.row e g1 g2 g3=>.row (hi _ _ e) (bC.free hi h g1) g2 g3
 |_,_,.dm _ h,.dm e g1 g2=>.dm (hi _ _ e) (bC.free hi h g1) g2
 |_,_,.gu,.gu a=>.gu a
theorem bC.free{φ ψ:aO}(hi:∀c x,φ.im c=some x→ψ.im c=some x):∀ {a:List V}{c:List Value},cM a→bC φ a c→bC ψ a c
 |_,_,.nil,.nil=>.nil
 |_,_,.cons h h',.cons g g'=>.cons (aS.free hi h g) (bC.free hi h' g')
end
section
variable {P:Program}{G:Nat}{φ:aO}{H:ag}{w:World}
theorem Rel.zero(f:Rel φ H w):Rel (φ.view id G) (ag.zero G) w:=by
 have a:∀ {b:Nat}{o:eg},(ag.zero G).get b=o→o=.none:=fun{b o} e=>by rw[ag.gf]at e;exact e.symm
 refine⟨?_,?_,?_,?_,?_,?_,?_,?_,?_,?_,?_⟩
 ·intro b l d g i v _ e;cases a e
 ·intro b l i e h;exact f.room (aO.mw e).2 h
 ·intro b l d g _ e;cases a e
 ·intro b n l p _ _ _ _;exact .inr ⟨ag.gf _ _,ag.gf _ _⟩
 ·intro b k;refine⟨?_,ag.gf _ _⟩;exact au (Nat.not_lt.2 (show G≤b from k))
 ·intro b l e;exact f.loc (aO.mw e).2
 ·intro b d g m j e;cases a e
 ·intro g m j e;cases a e
 ·intro b l o _ e;cases a e
 ·intro c x e;exact(f.fj e).keep rfl fun _ _ _ _=>ag.gf _ _
 ·intro b d g e;cases a e
variable{A:FuncId}{b:List V}
theorem o6{R:V→Prop}(Z:cM b)
 (t:e6 P G (.fn A) b (ag.zero G) fun O n=>∃v,cr n (ag.zero n.next) O v∧bZ v∧R v) (H:ag):
 e6 P G (.fn A) b H fun v n=>R v∧n=H:=by
 refine⟨t.1,fun φ w S j hg ab=>(t.2 (φ.view id G) w S j.zero ?_ (bC.free (φ:=φ) (ψ:=φ.view id G) (fun _ _ e=>e) Z ab)).mono ?_⟩
 ·intro g L;obtain⟨ar,e⟩:=hg g L;exact⟨ar,aO.rG L e⟩
 ·rintro e s ⟨O,v',n,Q,rfl,p,ap,v,ad,ac,Y⟩;have al:∀y,y<G→n.get y=.none:=by
   intro y z;cases d:φ.view id G y with
   |some l=>exact(p.iU d (ag.gf _ _)).1
   |none=>
    rw[p.mQ z d (fun a q m=>by rw[ag.gf]at m;cases m)];exact ag.gf _ _
  have C:Cut G n (ag.zero n.next):=⟨fun y=>by
   by_cases z:y<G
   ·exact .inl (by rw[al y z,ag.gf])
   ·exact .inr ⟨ja z,ag.gf _ _⟩,rfl,fun _ _ _ _ _ _ _ _ _=>ag.gf _ _⟩
  have M:=p.rel.cut C;have D:mC G (φ.view id G) (ag.zero G) w (Q.dr n (ag.zero n.next) s) (ag.zero n.next) s:=(p.wX (aR G)).trans (p.rel.vR C p.next)
  have N:=aS.dr p.rel C ad ap;generalize Q.dr n (ag.zero n.next) s=r at M D N
  have u:∀ {k:Nat},k<w.heap.size→s.heap[k]? =w.heap[k]? :=by
   intro k t;by_cases I:∃q l,φ.view id G q=some l∧l.c=k
   ·obtain⟨q,l,d,rfl⟩:=I;exact(p.iU d (ag.gf _ _)).2
   ·exact p.kR t (fun q l d m=>I ⟨q,l,d,m⟩)
  have J:∀k x,r.im k=some x→φ.im k=some x∨w.heap.size≤k:=by
   intro k x e;rcases D.l6 k x e with h|h|⟨q,l,_,_,h⟩
   ·exact .inl h
   ·exact .inr h
   ·exact absurd (ag.gf _ _) h
  have E:φ.le ⟨φ.f,r.im⟩:=⟨fun _ _ e=>e,D.wg⟩;have am:Rel ⟨φ.f,r.im⟩ H s:=by
   refine⟨?_,fun d m=>p.same.free (j.room d m),j.len,j.inj,j.top,fun d=>ei (j.loc d) p.size,j.mem,j.lp,?_,?_,j.lu⟩
   ·intro q l cs g i x d m T U;obtain⟨x',B,F⟩:=j.cell d m T U;refine⟨x',?_,F.mono E⟩;unfold World.cell? at B⊢;rw[u (j.loc d)];exact B
   ·intro q l o d m;obtain⟨B,F⟩:=j.cv d m;exact⟨B,F.mono E (u (j.loc d))⟩
   ·intro k x e;have K:=M.fj e;refine⟨K.obj,K.kind,fun q l d m=>?_⟩;rcases J k x e with h|h
    ·exact(j.fj h).off q l d m
    ·have:=j.loc d;omega
  refine⟨v,v',H,⟨φ.f,r.im⟩,rfl,⟨am,E,fun W X=>absurd (W.symm.trans X) aJ,fun _ _ _=>rfl,aR _,fun h _=>u h,p.size,p.same,fun d m=>⟨m,u (j.loc d)⟩,fun k x e=>?_⟩,aS.free (φ:=r) (ψ:=⟨φ.f,r.im⟩) (fun _ _ e=>e) ac N,Y,rfl⟩;rcases J k x e with h|h
  ·exact .inl h
  ·exact .inr (.inl h)
end
inductive ah where
 |skip|ret|exit (id:Nat)|aH (l:List b_)|seq (a b:ah)|cond (x:Fr→V) (a b:ah)|block (id:Nat) (b:ah)|loop (b:ah)
 |cut (B n:Nat) (b:ah)
def comp(N:eF)(T:cE)(c:Code):Option ah:=
 Code.rec (motive:=fun _=>Option ah) (some .skip) (fun _ e d=>av (plan N T e.toList d) fun l=>some (.aH l)) (fun _ _ a b=>av a fun a=>av b fun b=>some (.seq a b))
  (fun x _ _ a b=>av (gQ x) fun x=>av a fun a=>av b fun b=>some (.cond x a b)) (fun id _ b=>av b fun b=>some (.block id b)) (fun _ b=>av b fun b=>some (.loop b))
  (fun _ _ _ _ _ _=>aW) (fun id=>some (.exit id)) (fun _ b=>b) (fun _=>some .skip) (fun _=>aW) (some .ret) (fun _=>aW) c
inductive gV where
 |tmp (t:Nat)|cell (a:Nat) (agg:Bool) (size:Nat)
def A_(T:cE)(l:List ResultVar):Option (List gV):=
 List.rec (motive:=fun _=>Option (List gV)) (some []) (fun r _ b=>av (match r with
  |.tmp t=>some (gV.tmp t)
  |.cell a t=>av (T.isAgg t) fun g=>av (iw T t) fun s=>some (gV.cell a g s)) fun r=>av b fun l=>some (r::l)) l
def vI(G:Nat)(N:eF)(T:cE)(a:Func):Option (ah×List gV):=
 av a.body fun c=>bq (qW G a c) (av (comp N T c) fun k=>av (A_ T a.results.toList) fun r=>some (k,r))
def qy(v:V)(p q:Prop):Prop:=match v with
 |.bool true=>p
 |.bool false=>q
 |_=>False
def ady(B n:Nat)(F:Fr)(H:ag)(K:Fr→ag→Prop):Prop:=
 ∃b a,Cut B H a∧(∀t,t<n→cr H a (F.get V.undef t) (b.get V.undef t))∧K b a
def wp(P:Program)(G:Nat):ah→Fr→ag→(X→Fr→ag→Prop)→Prop
 |.skip,F,H,Q=>Q .norm F H
 |.ret,F,H,Q=>Q .ret F H
 |.exit id,F,H,Q=>Q (.exit id) F H
 |.aH l,F,H,Q=>fZ P G l F H (Q .norm)
 |.seq a b,F,H,Q=>wp P G a F H (e_ (fun c d=>wp P G b c d Q) Q)
 |.cond x a b,F,H,Q=>qy (x F) (wp P G a F H Q) (wp P G b F H Q)
 |.block id b,F,H,Q=>wp P G b F H (lX id Q)
 |.loop b,F,H,Q=>∃(I:Nat→Fr→ag→Prop) (k:Nat),I k F H∧∀k F H,I k F H→wp P G b F H (e_ (fun c d=>∃m,m<k∧I m c d) Q)
 |.cut B n b,F,H,Q=>ady B n F H fun e f=>wp P G b e f Q
section
variable {P:Program}{G B n:Nat}{N:eF}{T:cE}
variable{o:Fr}{c:ag}{M:X→Fr→ag→Prop}
theorem zp{rd:Bool}{d:Code}{b:X→Fr→ag→Prop}(h:∀x o c,M x o c→b x o c)(m:hU P G B n rd d o c M):hU P G B n rd d o c b:=
 fun q a w p e f g i j k l=>wpIn_mono (m q a w p e f g i j k l) fun _ _ _=>j5.mono h
theorem ar0(hT:c4 P T)(cA:jo P N)(fJ:P.follows .mixedOrders=true):∀(c:Code) (k:ah),comp N T c=some k→codeOk G n c=true→∀(F:Fr) (H:ag) (Q:X→Fr→ag→Prop),wp P G k F H Q→hU P G B n false c F H Q:=by
 intro c;induction c with
 |skip=>intro k d _ F H Q h;cases d;exact Dp h
 |region id M E=>
  intro k d j F H Q h;obtain⟨l,L,d⟩:=aD.1 (show av (plan N T M.toList E) (fun l=>some (ah.aH l))=some k from d);cases d;exact Dk hT cA fJ j L h
 |seq a b u v=>
  intro k d j F H Q h;obtain⟨x,o,d⟩:=aD.1 (show av (comp N T a) (fun x=>av (comp N T b) fun y=>some (ah.seq x y))=some k from d);obtain⟨y,t,d⟩:=aD.1 d;cases d;obtain⟨q,r⟩:=(cz _ _).mp (show and (codeOk G n a) (codeOk G n b)=true from j);refine Dn (zp (fun e C D g=>?_) (u x o q F H _ h));cases e with
  |norm=>exact v y t r C D Q g
  |ret=>exact g
  |exit i=>exact g
 |cond x a b u v=>
  intro k d j F H Q h;obtain⟨f,z,d⟩:=aD.1 (show av (gQ x) (fun f=>av (comp N T a) fun x=>av (comp N T b) fun y=>some (ah.cond f x y))=some k from d);obtain⟨A,o,d⟩:=aD.1 d;obtain⟨y,t,d⟩:=aD.1 d;cases d;obtain⟨w,J⟩:=(cz _ _).mp (show and (sG G n x) (and (codeOk G n a) (codeOk G n b))=true from j);obtain⟨q,r⟩:=(cz _ _).mp J;have p:qy (f F) (wp P G A F H Q) (wp P G y F H Q):=h;unfold qy at p;split at p
  ·rename_i e;exact xq w z e (u A o q F H Q p)
  ·rename_i e;exact xq w z e (v y t r F H Q p)
  ·exact p.elim
 |block id b s=>
  intro k d j F H Q h;obtain⟨x,o,d⟩:=aD.1 (show av (comp N T b) (fun x=>some (ah.block id x))=some k from d);cases d;exact Dg (s x o j F H _ h)
 |loop b s=>
  intro k d j F H Q h;obtain⟨x,o,d⟩:=aD.1 (show av (comp N T b) (fun x=>some (ah.loop x))=some k from d);cases d;obtain⟨I,m,q,r⟩:=h;exact Dj I (fun m F H K=>s x o j F H _ (r m F H K)) q
 |rangeFunc g O a b _ _=>intro k d;cases d
 |exit id=>intro k d _ F H Q h;cases d;exact Dh h
 |scope b s=>intro k d j F H Q h;exact Dm (s k d j F H Q h)
 |label l=>intro k d _ F H Q h;cases d;exact Di h
 |goto l=>intro k d;cases d
 |ret=>intro k d _ F H Q h;cases d;exact Dl h
 |refuse l=>intro k d;cases d
def kD(F:Fr)(H:ag)(l:List gV):Option (List V):=
 List.rec (motive:=fun _=>Option (List V)) (some []) (fun r _ b=>av (match r with
  |.tmp t=>some (F.get V.undef t)
  |.cell a g s=>hH g s [F.get V.undef a] H) fun v=>av b fun l=>some (v::l)) l
theorem Cg:∀ {l:List ResultVar}{r:List gV},A_ T l=some r→qj T o c l=kD o c r:=by
 intro l;induction l with
 |nil=>intro r h;cases h;rfl
 |cons x l j=>
  intro r h;obtain⟨y,b,h⟩:=aD.1 h;obtain⟨k,i,h⟩:=aD.1 h;cases h;have e:qj T o c (x::l)=av (Ka T o c x) fun v=>av (qj T o c l) fun r=>some (v::r):=rfl
  rw[e,j i];cases x with
  |tmp t=>cases b;rfl
  |cell a t=>
   obtain⟨g,d,b⟩:=aD.1 b;obtain⟨s,f,b⟩:=aD.1 b;cases b;show av (av (T.isAgg t) fun g=>av (iw T t) fun s=>hH g s [bM.kP V.undef (path a) o] c) _=_;rw[d,f];rfl
def oI(Q:V→ag→Prop)(H:ag)(r:Option (List V)):Prop:=match r with
 |some l=>Q (nD l) H
 |aW=>False
def gl(a:List gV)(Q:V→ag→Prop):X→Fr→ag→Prop
 |.ret,F,H=>oI Q H (kD F H a)
 |.norm,F,H=>oI Q H (kD F H a)
 |.exit _,_,_=>False
variable{A:FuncId}{O:ah}{b:List V}{K:V→ag→Prop}
theorem afv(hT:c4 P T)(cA:jo P N)(fJ:P.follows .mixedOrders=true){k:Func}{f:List gV}(t:N.get aW A=some k)(a:vI G N T k=some (O,f))
 (v:b8 (cP b) k.ntmps=true) (h:wp P G O (l5 b 0 .nil) c (gl f K)):e6 P G (.fn A) b c K:=by
 obtain⟨o,q,a⟩:=aD.1 a;cases m:qW G k o with
 |false=>rw[m]at a;cases a
 |true=>
  rw[m]at a;obtain⟨w,u,a⟩:=aD.1 (show av (comp N T o) (fun O=>av (A_ T k.results.toList) fun r=>some (O,r))=some (O,f)from a);obtain⟨y,p,a⟩:=aD.1 a;cases a;have s:codeOk G k.ntmps o=true:=by
   unfold qW at m;rw[cz,cz]at m;exact m.2.1
  refine Ic hT cA t q (by rw[m,v];rfl) (zp (fun x n j g=>?_) (ar0 hT cA fJ o O u s _ _ _ h));cases x with
  |exit i=>exact g.elim
  |norm=>
   refine⟨aJ,?_⟩;have d:oI K j (kD n j f):=g;cases e:kD n j f with
   |none=>rw[e]at d;exact d.elim
   |some l=>rw[e]at d;exact⟨l,(Cg p).trans e,d⟩
  |ret=>
   refine⟨aJ,?_⟩;have d:oI K j (kD n j f):=g;cases e:kD n j f with
   |none=>rw[e]at d;exact d.elim
   |some l=>rw[e]at d;exact⟨l,(Cg p).trans e,d⟩
end
def rd(t:Nat)(F:Fr):V:=F.get V.undef t
def kc(v:V)(_:Fr):V:=v
@[go_sem]theorem auM(v:V)(F:Fr):kc v F=v:=rfl
@[go_sem↓]theorem abS(u t:Nat)(v:V)(F:Fr):rd u (put F (some t) v)=if t=u then v else rd u F:=nB F t u v
@[go_sem]theorem av2(u:Nat):rd u .nil=V.undef:=bM.get_nil _ _
@[go_sem]theorem av0(v:V)(F:Fr):put F none v=F:=rfl
@[go_sem]theorem auH(i:Nat)(F:Fr):l5 [] i F=F:=rfl
@[go_sem]theorem auG(v:V)(l:List V)(i:Nat)(F:Fr):l5 (v::l) i F=l5 l (i+1) (put F (some i) v):=rfl
attribute [go_sem] kz
attribute [go_sem↓] reduceIte
def ex(d:Nat)(c:b4):b_:=.ex ⟨fun _=>some true,some d,c⟩
def eP(c:b4):b_:=.ex ⟨fun _=>some true,none,c⟩
def aN(j:Nat)(b:Bool)(d:Nat)(c:b4):b_:=.ex ⟨fun F=>l8 b (rd j F),some d,c⟩
def re(d:Nat)(c:b4):b_:=.re ⟨fun _=>some true,some d,c⟩
def rg(j:Nat)(b:Bool)(d:Nat)(c:b4):b_:=.re ⟨fun F=>l8 b (rd j F),some d,c⟩
def gZ(a:BinOp):IntKind→Int→IntKind→Int→Option bx:=match BC a with|some f=>f|none=>fun _ _ _ _=>none
def oP(a:BinOp):List UInt8→List UInt8→Option bx:=match CH a with|some f=>f|none=>fun _ _=>none
def mv(x:Fr→V):b4:=.pu [x] aaX
def fq(x:Fr→V):b4:=.gb [x] LJ
def pick(a b c:Fr→V):b4:=.pu [a,b,c] yD
def adZ(a:List V)(l:List V):Option bx:=match l with|[]=>some (.new a .ptr)|_=>none
def alloc(a:List V):b4:=.pu [] (adZ a)
def DD(l:List V):Option bx:=match l with|[v]=>bq (bP v) (some (.new (cellsOf v) .ptr))|_=>none
def box(x:Fr→V):b4:=.pu [x] DD
def bi(a:BinOp)(x y:Fr→V):b4:=.pu [x,y] (gM (gZ a))
def bs(a:BinOp)(x y:Fr→V):b4:=.pu [x,y] (od (oP a))
def be(neg:Bool)(d:TypeDesc)(x y:Fr→V):b4:=.pu [x,y] (nX neg d)
def ct(a:Bool)(b:Nat)(x:Fr→V):b4:=.rd [x] (hH a b)
def st(b:Nat)(a v:Fr→V):b4:=.gb [a,v] (qm b)
def fa(a:Nat)(x:Fr→V):b4:=.pu [x] (vU a)
def dX(a:Option Nat)(b:Nat)(x i:Fr→V):b4:=.pu [x,i] (dY a b)
def g9(x i:Fr→V):b4:=.pu [x,i] jS
def DC(b:List (Nat×Nat))(d c:List V):Option bx:=av (nZ b c d) fun a=>some (.val (.agg a))
def cD(a:List (Nat×Nat))(c:List V)(b:List (Fr→V)):b4:=.pu b (DC a c)
def DE(a:Nat)(c:List (Nat×Nat))(e d:List V):Option bx:=av (nZ c d (rep e a)) fun b=>some (.new b (.slice a a))
def cW(a:Nat)(b:List (Nat×Nat))(d:List V)(c:List (Fr→V)):b4:=.pu c (DE a b d)
def lJ(b a mx:Bool)(c:List (Fr→V)):b4:=.pu c (slice3 kg b a mx)
def jk(s:Nat)(b a mx:Bool)(c:List (Fr→V)):b4:=.pu c (slice3 (jA s) b a mx)
def mY(n s:Nat)(b a mx:Bool)(c:List (Fr→V)):b4:=.pu c (slice3 (lK n s) b a mx)
def ms(bytes:Nat)(a:List V)(x y:Fr→V):b4:=.pu [x,y] (mS bytes a)
def iF(x:Fr→V):b4:=.pu [x] (un yf)
def fF(x:Fr→V):b4:=.pu [x] (un eC)
def aaJ(x:Fr→V):b4:=.rd [x] sx
def Il(x:Fr→V):b4:=.pu [x] (un xY)
def mx(a:List (Fr→V)):b4:=.pu a (oR max2)
def mn(a:List (Fr→V)):b4:=.pu a (oR min2)
def LI(bytes:Nat)(a:List V)(x y:Fr→V):b4:=.pu [x,y] (xA bytes a)
def ap(a bytes:Nat)(x y:Fr→V):b4:=.gb [x,y] (ga a bytes)
def r3(a:Nat)(x y:Fr→V):b4:=.gb [x,y] (nq a)
def Io(k:IntKind)(l:List V):Option bx:=match l with|[.int _ n]=>ic k (aG k n)|_=>none
def j8(k:IntKind)(x:Fr→V):b4:=.pu [x] (Io k)
def YI(x:Fr→V):b4:=.pu [x] y3
def tL(x:Fr→V):b4:=.rd [x] rD
def bF(f:Nat)(a:List (Fr→V)):b4:=.call a fun l=>some (.fn f,l)
def pY(a:List (Fr→V)):b4:=.call a r0
def ext(i:Nat)(x:Fr→V):b4:=.pu [x] (x3 i)
def ux(x:Fr→V):b4:=.pu [x] yx
def Jx(l:List V):Option bx:=match l with|[.int k n]=>ic k (aG k (Int.sub (.ofNat 0) n))|_=>none
def neg(x:Fr→V):b4:=.pu [x] Jx
def JB(l:List V):Option bx:=match l with|[.bool b]=>iq (!b)|_=>none
def not(x:Fr→V):b4:=.pu [x] JB
def Js(f n:Nat)(l:List V):Option bx:=av (acN n l) fun r=>some (.val (.func f r.1 r.2))
def aaV(f n:Nat)(a:List (Fr→V)):b4:=.pu a (Js f n)
def fY(d:Option Nat)(K:Fr→ag→Prop)(F:Fr)(H:ag)(r:Option bx):Prop:=match r with
 |none=>False
 |some (.val v)=>K (put F d v) H
 |some (.new a b)=>K (put F d (b.mk H.next)) (H.push (.cells a 0))
def pR(d:Option Nat)(K:Fr→ag→Prop)(F:Fr)(H:ag)(r:Option V):Prop:=match r with
 |none=>False
 |some v=>K (put F d v) H
def gT(d:Option Nat)(K:Fr→ag→Prop)(F:Fr)(r:Option (V×ag)):Prop:=match r with
 |none=>False
 |some (v,a)=>K (put F d v) a
def ow(P:Program)(G:Nat)(d:Option Nat)(K:Fr→ag→Prop)(F:Fr)(H:ag)(r:Option (nQ×List V)):Prop:=match r with
 |none=>False
 |some (t,b)=>e6 P G t b H fun v a=>K (put F d v) a
def xj(d:Option Nat)(K:Fr→ag→Prop)(F:Fr)(H:ag)(v:V):Prop:=K (put F d v) H
def K6(d:Option Nat)(F:Fr)(r:Option V):Prop:=match r,d with
 |none,_=>False
 |some v,some t=>rd t F=v
 |some _,none=>True
variable{f:Fr→ag→Prop}{o:Fr}{c:ag}
@[congr]theorem atg{r a:Option bx}(h:r=a):fY j f o c r=fY j f o c a:=by rw[h]
@[congr]theorem atj{r a:Option V}(h:r=a):pR j f o c r=pR j f o c a:=by rw[h]
@[congr]theorem as2{r a:Option (V×ag)}(h:r=a):gT j f o r=gT j f o a:=by rw[h]
@[congr]theorem ase{P:Program}{r b:Option (nQ×List V)}(h:r=b):ow P a j f o c r=ow P a j f o c b:=by rw[h]
variable{s:V}
@[congr]theorem ate{a:V}(h:s=a):xj j f o c s=xj j f o c a:=by rw[h]
@[congr]theorem atl{Q:V→ag→Prop}{r a:Option (List V)}(h:r=a):oI Q c r=oI Q c a:=by rw[h]
@[go_sem]theorem ati(d:Option Nat)(K:Fr→ag→Prop)(F:Fr)(H:ag)(v:V):fY d K F H (some (.val v))=K (put F d v) H:=rfl
@[go_sem]theorem ath(d:Option Nat)(K:Fr→ag→Prop)(F:Fr)(H:ag)(a:List V)(b:Shape):fY d K F H (some (.new a b))=K (put F d (b.mk H.next)) (H.push (.cells a 0)):=rfl
@[go_sem]theorem atk(d:Option Nat)(K:Fr→ag→Prop)(F:Fr)(H:ag)(v:V):pR d K F H (some v)=K (put F d v) H:=rfl
@[go_sem]theorem as3(d:Option Nat)(K:Fr→ag→Prop)(F:Fr)(a:ag)(v:V):gT d K F (some (v,a))=K (put F d v) a:=rfl
@[go_sem]theorem atf(d:Option Nat)(K:Fr→ag→Prop)(F:Fr)(H:ag)(v:V):xj d K F H v=K (put F d v) H:=rfl
@[go_sem]theorem atm(Q:V→ag→Prop)(H:ag)(l:List V):oI Q H (some l)=Q (nD l) H:=rfl
def dF(P:Program)(G:Nat)(c:b4)(d:Option Nat)(F:Fr)(H:ag)(K:Fr→ag→Prop):Prop:=match c with
 |.bad=>False
 |.pu a g=>fY d K F H (g (vals a F))
 |.rd a g=>pR d K F H (g (vals a F) H)
 |.gb a g=>gT d K F (g (vals a F) H)
 |.call a g=>ow P G d K F H (g (vals a F))
 |.lF x=>zk (x F) H fun v b=>K (put F d v) b
theorem Ku{P:Program}{w:Fr→Option Bool}{m:b4}(n:w o=some true):iP P a ⟨w,j,m⟩ o c f=dF P a m j o c f:=by
 apply propext
 have y:iP P a ⟨w,j,m⟩ o c f↔match m with
  |.call i g=>∃t q,g (vals i o)=some (t,q)∧e6 P a t q c fun v k=>f (put o j v) k
  |.lF x=>zk (x o) c fun v k=>f (put o j v) k
  |_=>∃p k,exec o5 ⟨w,j,m⟩ o c=some (p,k)∧f p k:=by
  unfold iP;constructor
  ·rintro(⟨h,_⟩|⟨_,h⟩)
   ·have h:w o=some false:=h;rw[n]at h;cases h
   ·exact h
  ·exact fun h=>.inr ⟨n,h⟩
 rw[y];cases m with
 |call i g=>
  unfold dF ow;constructor
  ·rintro⟨t,q,s,u⟩;simp only[s];exact u
  ·intro h;cases e:g (vals i o)with
   |none=>simp only[e]at h
   |some r=>obtain⟨t,l⟩:=r;simp only[e]at h;exact⟨t,l,e,h⟩
 |lF x=>exact Iff.rfl
 |bad=>
  constructor
  ·rintro⟨p,k,h,_⟩;simp only[exec,n]at h;cases h
  ·exact False.elim
 |pu i g=>
  unfold dF fY;simp only[exec,n];cases e:g (vals i o)with
  |none=>simp[av]
  |some r=>cases r<;>(simp only[av,Option.some.injEq,Prod.mk.injEq];exact⟨fun⟨_,_,⟨l,b⟩,h⟩=>by rw[l,b];exact h,fun h=>⟨_,_,⟨rfl,rfl⟩,h⟩⟩)
 |rd i g=>
  unfold dF pR;simp only[exec,n];cases e:g (vals i o) c with
  |none=>simp[av]
  |some r=>simp only[av,Option.some.injEq,Prod.mk.injEq];exact⟨fun⟨_,_,⟨l,b⟩,h⟩=>by rw[l,b];exact h,fun h=>⟨_,_,⟨rfl,rfl⟩,h⟩⟩
 |gb i g=>
  unfold dF gT;simp only[exec,n];cases e:g (vals i o) c with
  |none=>simp[av]
  |some r=>simp only[av,Option.some.injEq,Prod.mk.injEq];exact⟨fun⟨_,_,⟨l,b⟩,h⟩=>by rw[l,b];exact h,fun h=>⟨_,_,⟨rfl,rfl⟩,h⟩⟩
theorem step_skip{P:Program}{w:Fr→Option Bool}{e:b4}(b:w o=some false):iP P a ⟨w,j,e⟩ o c f=f (put o j V.undef) c:=by
 apply propext;unfold iP;constructor
 ·rintro(⟨_,h⟩|⟨h,_⟩)
  ·exact h
  ·have h:w o=some true:=h;rw[b]at h;cases h
 ·exact fun h=>.inl ⟨b,h⟩
theorem aqK{P:Program}{w:Fr→Option Bool}{e:b4}(b:w o=none):iP P a ⟨w,j,e⟩ o c f=False:=by
 apply propext;unfold iP;constructor
 ·rintro(⟨h,_⟩|⟨h,_⟩)
  ·have h:w o=some false:=h;rw[b]at h;cases h
  ·have h:w o=some true:=h;rw[b]at h;cases h
 ·exact False.elim
def pH(P:Program)(G:Nat)(b:Bool)(c:b4)(d:Option Nat)(K:Fr→ag→Prop)(F:Fr)(H:ag)(v:V):Prop:=match l8 b v with
 |none=>False
 |some true=>dF P G c d F H K
 |some false=>K (put F d V.undef) H
def j3(P:Program)(G:Nat)(l:List b_)(Q:Fr→ag→Prop)(F:Fr)(H:ag):Prop:=fZ P G l F H Q
def iA(P:Program)(G:Nat)(c:ah)(R:X→Fr→ag→Prop)(F:Fr)(H:ag):Prop:=wp P G c F H R
def xg(P:Program)(G:Nat)(a b:ah)(R:X→Fr→ag→Prop)(F:Fr)(H:ag)(v:V):Prop:=qy v (wp P G a F H R) (wp P G b F H R)
def ou(P:Program)(G:Nat)(d:Option Nat)(l:List b_)(Q:Fr→ag→Prop)(F:Fr)(H:ag)(r:Option V):Prop:=K6 d F r∧fZ P G l F H Q
variable{m:Bool}
@[congr]theorem as6{P:Program}{b:b4}{v:V}(h:v=s):pH P a m b j f o c v=pH P a m b j f o c s:=by rw[h]
variable{O:ah}{M:X→Fr→ag→Prop}
@[congr]theorem atb{P:Program}{b:ah}{v:V}(h:v=s):xg P a O b M o c v=xg P a O b M o c s:=by rw[h]
@[congr]theorem asc{P:Program}{l:List b_}{r b:Option V}(h:r=b):ou P a j l f o c r=ou P a j l f o c b:=by rw[h]
section
variable {P:Program}{G:Nat}{F:Fr}{H:ag}{Q:Fr→ag→Prop}{R:X→Fr→ag→Prop}{d:Option Nat}{K:Fr→ag→Prop}
@[go_sem]theorem as_(c:b4):pH P G true c d K F H (.bool true)=dF P G c d F H K:=rfl
@[go_sem]theorem as7(c:b4):pH P G false c d K F H (.bool false)=dF P G c d F H K:=rfl
@[go_sem]theorem as8(c:b4):pH P G false c d K F H (.bool true)=K (put F d V.undef) H:=rfl
@[go_sem]theorem as9(c:b4):pH P G true c d K F H (.bool false)=K (put F d V.undef) H:=rfl
@[go_sem]theorem atd(a b:ah):xg P G a b R F H (.bool true)=iA P G a R F H:=rfl
@[go_sem]theorem atc(a b:ah):xg P G a b R F H (.bool false)=iA P G b R F H:=rfl
@[go_sem↓]theorem atx:j3 P G [] Q F H=Q F H:=rfl
@[go_sem↓]theorem atw(i:Nat)(c:b4)(l:List b_):j3 P G (ex i c::l) Q F H=dF P G c (some i) F H (j3 P G l Q):=by
 show iP P G ⟨fun _=>some true,some i,c⟩ F H (j3 P G l Q)=_;exact Ku rfl
@[go_sem↓]theorem atv(c:b4)(l:List b_):j3 P G (eP c::l) Q F H=dF P G c none F H (j3 P G l Q):=by
 show iP P G ⟨fun _=>some true,none,c⟩ F H (j3 P G l Q)=_;exact Ku rfl
theorem aiy(j:Nat)(b:Bool)(dd:Option Nat)(c:b4):iP P G ⟨fun F=>l8 b (rd j F),dd,c⟩ F H K=pH P G b c dd K F H (rd j F):=by
 unfold pH;cases e:l8 b (rd j F)with
 |none=>exact aqK e
 |some x=>cases x with
  |true=>exact Ku e
  |false=>exact step_skip e
@[go_sem↓]theorem atu(j:Nat)(b:Bool)(i:Nat)(c:b4)(l:List b_):j3 P G (aN j b i c::l) Q F H=pH P G b c (some i) (j3 P G l Q) F H (rd j F):=by
 show iP P G ⟨fun F=>l8 b (rd j F),some i,c⟩ F H (j3 P G l Q)=_;exact aiy j b (some i) c
variable{t:List (Fr→V)}
theorem Lw{w:Fr→Option Bool}(c:w F=some true){dd:Option Nat}{g:List V→ag→Option V}:uW ⟨w,dd,.rd t g⟩ F H↔K6 dd F (g (vals t F) H):=by
 constructor
 ·rintro(h|⟨_,h⟩)
  ·have h:w F=some false:=h;rw[c]at h;cases h
  ·obtain⟨v,d,f⟩:=h t g rfl;rw[d];cases dd with
   |none=>exact trivial
   |some b=>exact f b rfl
 ·intro h;refine .inr ⟨c,fun j i e=>?_⟩;cases e;cases e:g (vals t F) H with
  |none=>rw[e]at h;cases dd<;>exact h.elim
  |some v=>
   refine⟨v,rfl,fun b a=>?_⟩;have a:dd=some b:=a;rw[e,a]at h;exact h
theorem apl(w:Fr→Option Bool)(b:w F=some true)(dd:Option Nat)(a:List (Fr→V))(g:List V→ag→Option V)(l:List b_):fZ P G (.re ⟨w,dd,.rd a g⟩::l) F H Q=ou P G dd l Q F H (g (vals a F) H):=by
 unfold ou;rw[←Lw b];rfl
@[go_sem↓]theorem aty(i:Nat)(g:Bool)(s:Nat)(x:Fr→V)(l:List b_):j3 P G (re i (ct g s x)::l) Q F H=ou P G (some i) l Q F H (hH g s [x F] H):=apl _ rfl _ _ _ _
@[go_sem]theorem asd(i:Nat)(l:List b_)(v:V):ou P G (some i) l Q F H (some v)=(rd i F=v∧j3 P G l Q F H):=rfl
@[go_sem↓]theorem atG:iA P G .skip R F H=R .norm F H:=rfl
@[go_sem↓]theorem atE:iA P G .ret R F H=R .ret F H:=rfl
@[go_sem↓]theorem atC(id:Nat):iA P G (.exit id) R F H=R (.exit id) F H:=rfl
@[go_sem↓]theorem atD(l:List b_):iA P G (.aH l) R F H=j3 P G l (R .norm) F H:=rfl
@[go_sem↓]theorem atF(a b:ah):iA P G (.seq a b) R F H=iA P G a (e_ (iA P G b R) R) F H:=rfl
@[go_sem↓]theorem atB(x:Fr→V)(a b:ah):iA P G (.cond x a b) R F H=xg P G a b R F H (x F):=rfl
@[go_sem↓]theorem atA(id:Nat)(b:ah):iA P G (.block id b) R F H=iA P G b (lX id R) F H:=rfl
@[go_sem↓]theorem awe(K:Fr→ag→Prop):e_ K R .norm F H=K F H:=rfl
@[go_sem↓]theorem awf(K:Fr→ag→Prop):e_ K R .ret F H=R .ret F H:=rfl
@[go_sem↓]theorem awd(K:Fr→ag→Prop)(i:Nat):e_ K R (.exit i) F H=R (.exit i) F H:=rfl
@[go_sem↓]theorem at0(id:Nat):lX id R .norm F H=R .norm F H:=rfl
@[go_sem↓]theorem at2(id:Nat):lX id R .ret F H=R .ret F H:=rfl
@[go_sem↓]theorem fu(id:Nat):lX id R (.exit id) F H=R .norm F H:=ay rfl
theorem Mm{id:Nat}(h:a≠id):lX id R (.exit a) F H=R (.exit a) F H:=au h
def nO(I:Nat→Fr→ag→Prop)(k:Nat)(F:Fr)(H:ag):Prop:=∃m,m<k∧I m F H
theorem bW(I:Nat→Fr→ag→Prop)(k:Nat)(a:I k F H)(h:∀k F H,I k F H→iA P G O (e_ (nO I k) R) F H):iA P G (.loop O) R F H:=⟨I,k,a,h⟩
variable{A:FuncId}{b:List V}
theorem nR{N:eF}{T:cE}(hT:c4 P T)(cA:jo P N)(fJ:P.follows .mixedOrders=true){a:Func}{c:List gV}(d:N.get aW A=some a)(e:vI G N T a=some (O,c))
 {H:ag}{Q:V→ag→Prop} (f:b8 (cP b) a.ntmps=true) (h:iA P G O (gl c Q) (l5 b 0 .nil) H):e6 P G (.fn A) b H Q:=afv hT cA fJ d e f h
@[go_sem↓]theorem as5(a:List gV)(Q:V→ag→Prop):gl a Q .ret F H=oI Q H (kD F H a):=rfl
@[go_sem↓]theorem as4(a:List gV)(Q:V→ag→Prop):gl a Q .norm F H=oI Q H (kD F H a):=rfl
@[go_sem]theorem av9:kD F H []=some []:=rfl
@[go_sem]theorem av_(t:Nat)(l:List gV):kD F H (.tmp t::l)=av (kD F H l) fun l=>some (rd t F::l):=rfl
@[go_sem]theorem av8(a:Nat)(g:Bool)(s:Nat)(l:List gV):kD F H (.cell a g s::l)=av (hH g s [rd a F] H) fun v=>av (kD F H l) fun l=>some (v::l):=rfl
@[go_sem]theorem av6(v:V):nD [v]=v:=rfl
@[go_sem]theorem av7(v u:V)(l:List V):nD (v::u::l)=.aK (v::u::l):=rfl
@[go_sem]theorem av5:nD []=.aK []:=rfl
@[go_sem]theorem yz{b:Type}(a:h)(f:h→Option b):av (some a) f=f a:=rfl
@[go_sem]theorem avC{a:Type}(f:h→Option a):av none f=none:=rfl
@[go_sem]theorem B4(x:Option h):bq true x=x:=rfl
@[go_sem]theorem avD(x:Option h):bq false x=none:=rfl
@[go_sem↓]theorem asO(x:Fr→V):dF P G (mv x) d F H K=xj d K F H (x F):=rfl
@[go_sem↓]theorem asj(x:Fr→V):dF P G (fq x) d F H K=xj d K F H (x F):=rfl
@[go_sem↓]theorem asU(a b c:Fr→V):dF P G (pick a b c) d F H K=fY d K F H (yD [a F,b F,c F]):=rfl
@[go_sem↓]theorem asf(a:List V):dF P G (alloc a) d F H K=K (put F d (.ptr H.next 0)) (H.push (.cells a 0)):=rfl
@[go_sem↓]theorem aso(x:Fr→V):dF P G (box x) d F H K=fY d K F H (DD [x F]):=rfl
@[go_sem↓]theorem asm(a:BinOp)(x y:Fr→V):dF P G (bi a x y) d F H K=fY d K F H (gM (gZ a) [x F,y F]):=rfl
@[go_sem↓]theorem asp(a:BinOp)(x y:Fr→V):dF P G (bs a x y) d F H K=fY d K F H (od (oP a) [x F,y F]):=rfl
@[go_sem↓]theorem asl(n:Bool)(t:TypeDesc)(x y:Fr→V):dF P G (be n t x y) d F H K=fY d K F H (nX n t [x F,y F]):=rfl
@[go_sem↓]theorem asD(g:Bool)(s:Nat)(x:Fr→V):dF P G (ct g s x) d F H K=pR d K F H (hH g s [x F] H):=rfl
@[go_sem↓]theorem as0(s:Nat)(a v:Fr→V):dF P G (st s a v) d F H K=gT d K F (qm s [a F,v F] H):=rfl
@[go_sem↓]theorem asA(o:Nat)(x:Fr→V):dF P G (fa o x) d F H K=fY d K F H (vU o [x F]):=rfl
@[go_sem↓]theorem asB(a:Option Nat)(s:Nat)(x i:Fr→V):dF P G (dX a s x i) d F H K=fY d K F H (dY a s [x F,i F]):=rfl
@[go_sem↓]theorem asC(x i:Fr→V):dF P G (g9 x i) d F H K=fY d K F H (jS [x F,i F]):=rfl
@[go_sem]theorem awh:vals [] F=[]:=rfl
@[go_sem]theorem awg(f:Fr→V)(l:List (Fr→V)):vals (f::l) F=f F::vals l F:=rfl
@[go_sem↓]theorem asn(a:List (Nat×Nat))(c:List V)(b:List (Fr→V)):dF P G (cD a c b) d F H K=fY d K F H (DC a c (vals b F)):=rfl
@[go_sem↓]theorem asq(n:Nat)(a:List (Nat×Nat))(c:List V)(b:List (Fr→V)):dF P G (cW n a c b) d F H K=fY d K F H (DE n a c (vals b F)):=rfl
@[go_sem↓]theorem asZ(a b c:Bool)(e:List (Fr→V)):dF P G (lJ a b c e) d F H K=fY d K F H (slice3 kg a b c (vals e F)):=rfl
@[go_sem↓]theorem asY(s:Nat)(a b c:Bool)(e:List (Fr→V)):dF P G (jk s a b c e) d F H K=fY d K F H (slice3 (jA s) a b c (vals e F)):=rfl
@[go_sem↓]theorem asX(n s:Nat)(a b c:Bool)(e:List (Fr→V)):dF P G (mY n s a b c e) d F H K=fY d K F H (slice3 (lK n s) a b c (vals e F)):=rfl
@[go_sem↓]theorem asL(n:Nat)(a:List V)(x y:Fr→V):dF P G (ms n a x y) d F H K=fY d K F H (mS n a [x F,y F]):=rfl
@[go_sem↓]theorem asH(x:Fr→V):dF P G (iF x) d F H K=fY d K F H (yf (x F)):=rfl
@[go_sem↓]theorem asF(x:Fr→V):dF P G (fF x) d F H K=fY d K F H (eC (x F)):=rfl
@[go_sem↓]theorem ass(x:Fr→V):dF P G (Il x) d F H K=fY d K F H (xY (x F)):=rfl
@[go_sem↓]theorem asP(a:List (Fr→V)):dF P G (mx a) d F H K=fY d K F H (oR max2 (vals a F)):=rfl
@[go_sem↓]theorem asK(a:List (Fr→V)):dF P G (mn a) d F H K=fY d K F H (oR min2 (vals a F)):=rfl
@[go_sem↓]theorem asi(n:Nat)(a:List V)(x y:Fr→V):dF P G (LI n a x y) d F H K=fY d K F H (xA n a [x F,y F]):=rfl
@[go_sem↓]theorem ash(s n:Nat)(x y:Fr→V):dF P G (ap s n x y) d F H K=gT d K F (ga s n [x F,y F] H):=rfl
@[go_sem↓]theorem asx(s:Nat)(x y:Fr→V):dF P G (r3 s x y) d F H K=gT d K F (nq s [x F,y F] H):=rfl
@[go_sem↓]theorem ast(k:IntKind)(x:Fr→V):dF P G (j8 k x) d F H K=fY d K F H (Io k [x F]):=rfl
@[go_sem↓]theorem asu(x:Fr→V):dF P G (YI x) d F H K=fY d K F H (y3 [x F]):=rfl
@[go_sem↓]theorem asv(x:Fr→V):dF P G (tL x) d F H K=pR d K F H (rD [x F] H):=rfl
@[go_sem↓]theorem asr(f:Nat)(a:List (Fr→V)):dF P G (bF f a) d F H K=ow P G d K F H (some (.fn f,vals a F)):=rfl
@[go_sem↓]theorem asw(a:List (Fr→V)):dF P G (pY a) d F H K=ow P G d K F H (r0 (vals a F)):=rfl
@[go_sem↓]theorem asz(i:Nat)(x:Fr→V):dF P G (ext i x) d F H K=fY d K F H (x3 i [x F]):=rfl
@[go_sem↓]theorem asR(x:Fr→V):dF P G (ux x) d F H K=fY d K F H (yx [x F]):=rfl
@[go_sem↓]theorem asQ(x:Fr→V):dF P G (neg x) d F H K=fY d K F H (Jx [x F]):=rfl
@[go_sem↓]theorem asS(x:Fr→V):dF P G (not x) d F H K=fY d K F H (JB [x F]):=rfl
@[go_sem↓]theorem asI(f n:Nat)(a:List (Fr→V)):dF P G (aaV f n a) d F H K=fY d K F H (Js f n (vals a F)):=rfl
theorem use(h:∀H,e6 P G (.fn A) b H fun v a=>v=s∧a=H)(f:K (put F d s) H):ow P G d K F H (some (.fn A,b)):=
 (h H).mono fun v a ⟨c,e⟩=>by rw[c,e];exact f
end
theorem oY(k:IntKind):gN k k=true:=by cases k<;>rfl
section
variable (k:IntKind) (a b:Int)
@[go_sem]theorem atM:gM (gZ .add) [.int k a,.int k b]=some (.val (.int k (aG k (a+b)))):=by show bq (gN k k) _=_;rw[oY];rfl
@[go_sem]theorem atY:gM (gZ .sub) [.int k a,.int k b]=some (.val (.int k (aG k (a-b)))):=by show bq (gN k k) _=_;rw[oY];rfl
@[go_sem]theorem atU:gM (gZ .mul) [.int k a,.int k b]=some (.val (.int k (aG k (a*b)))):=by show bq (gN k k) _=_;rw[oY];rfl
theorem iC(h:b≠0):gM (gZ .quo) [.int k a,.int k b]=some (.val (.int k (aG k (a.tdiv b)))):=by
 show bq (and (gN k k) (!(lA b 0))) _=_;rw[oY,qd,bp h];rfl
theorem k_(h:b≠0):gM (gZ .rem) [.int k a,.int k b]=some (.val (.int k (a.tmod b))):=by
 show bq (and (gN k k) (!(lA b 0))) _=_;rw[oY,qd,bp h];rfl
@[go_sem]theorem atO:gM (gZ .eql) [.int k a,.int k b]=some (.val (.bool (decide (a=b)))):=by show bq (gN k k) (iq (lA a b))=_;rw[oY,qd];rfl
@[go_sem]theorem atV:gM (gZ .neq) [.int k a,.int k b]=some (.val (.bool (!decide (a=b)))):=by show bq (gN k k) (iq (!lA a b))=_;rw[oY,qd];rfl
@[go_sem]theorem atT:gM (gZ .lss) [.int k a,.int k b]=some (.val (.bool (decide (a<b)))):=by show bq (gN k k) (iq (j9 a b))=_;rw[oY,n3];rfl
@[go_sem]theorem atQ:gM (gZ .gtr) [.int k a,.int k b]=some (.val (.bool (decide (b<a)))):=by show bq (gN k k) (iq (j9 b a))=_;rw[oY,n3];rfl
@[go_sem]theorem atS:gM (gZ .leq) [.int k a,.int k b]=some (.val (.bool (!decide (b<a)))):=by show bq (gN k k) (iq (!j9 b a))=_;rw[oY,n3];rfl
@[go_sem]theorem atP:gM (gZ .geq) [.int k a,.int k b]=some (.val (.bool (!decide (a<b)))):=by show bq (gN k k) (iq (!j9 a b))=_;rw[oY,n3];rfl
end
@[go_sem]theorem aek(k l:IntKind)(a:Int)(n:Nat):gM (gZ .shr) [.int k a,.int l (n:Int)]=some (.val (.int k (ql a (dO n (gq k))))):=rfl
@[go_sem]theorem aej(k l:IntKind)(a:Int)(n:Nat):gM (gZ .shl) [.int k a,.int l (n:Int)]=some (.val (.int k (aG k (a*((2^dO n (gq k):Nat):Int))))):=rfl
@[go_sem]theorem atX(k l:IntKind)(a:Int)(n:Nat):gM (gZ .shr) [.int k a,.int l (no_index (OfNat.ofNat n))]=some (.val (.int k (ql a (dO n (gq k))))):=rfl
@[go_sem]theorem atW(k l:IntKind)(a:Int)(n:Nat):gM (gZ .shl) [.int k a,.int l (no_index (OfNat.ofNat n))]=some (.val (.int k (aG k (a*((2^dO n (gq k):Nat):Int))))):=rfl
theorem aQ(x:Int)(h: -9223372036854775808≤x∧x<9223372036854775808):aG .i64 x=x:=by
 rw[ot];unfold qC;simp[oy,oz];omega
theorem gE(x:Int):aG .u64 x=x%18446744073709551616:=by
 rw[ot];unfold qC;simp[oy,oz]
theorem m4(x:Int):aG .u32 x=x%4294967296:=by
 rw[ot];unfold qC;simp[oy,oz]
theorem adk(x:Int):aG .u8 x=x%256:=by
 rw[ot];unfold qC;simp[oy,oz]
theorem cj(x:Int)(h:0≤x∧x<18446744073709551616):aG .u64 x=x:=by rw[gE];omega
theorem gd(x:Int)(h:0≤x∧x<4294967296):aG .u32 x=x:=by rw[m4];omega
theorem IL(x:Int)(h:0≤x∧x<256):aG .u8 x=x:=by rw[adk];omega
@[go_sem]theorem auw(k l:IntKind)(n:Int):Io k [.int l n]=some (.val (.int k (aG k n))):=rfl
@[go_sem]theorem avZ(x y:V):yD [.bool true,x,y]=some (.val x):=rfl
@[go_sem]theorem avY(x y:V):yD [.bool false,x,y]=some (.val y):=rfl
@[go_sem]theorem avB(b:Bool):JB [.bool b]=some (.val (.bool (!b))):=rfl
@[go_sem]theorem avy(k:IntKind)(n:Int):Jx [.int k n]=some (.val (.int k (aG k (-n)))):=by
 show ic k (aG k (Int.sub 0 n))=_;rw[show Int.sub 0 n= -n from Int.zero_sub n];rfl
@[go_sem]theorem auB(i:Nat)(l:List V):x3 i [.aK l]=av (eu l i) fun v=>some (.val v):=rfl
@[go_sem]theorem avp(a:h)(l:List h):eu (a::l) 0=some a:=rfl
@[go_sem]theorem avq(a:h)(l:List h)(n:Nat):eu (a::l) (n+1)=eu l n:=rfl
@[go_sem]theorem BR(l:List h):cF l 0=some []:=by cases l<;>rfl
@[go_sem]theorem avt(a:h)(l:List h)(n:Nat):cF (a::l) (n+1)=av (cF l n) fun r=>some (a::r):=rfl
@[go_sem]theorem eY(l:List h):eA l 0=l:=by cases l<;>rfl
@[go_sem]theorem au'(a:h)(l:List h)(n:Nat):eA (a::l) (n+1)=eA l n:=rfl
@[go_sem]theorem avg(n:Nat)(a:List V):eC (.row n a)=some (.val (.int .i64 (n:Int))):=rfl
@[go_sem]theorem avi(b o n:Nat)(c:Cap):eC (.slice b o n c)=some (.val (.int .i64 (n:Int))):=rfl
@[go_sem]theorem ave:eC .ak=some (.val (.int .i64 0)):=rfl
@[go_sem]theorem ava:eC .emp=some (.val (.int .i64 0)):=rfl
@[go_sem]theorem avj(s:List UInt8):yf (.str s)=some (.val (.int .i64 (s.length:Int))):=by show ic .i64 (.ofNat (cP s))=_;rw[gx];rfl
@[go_sem]theorem atL(n x y:Bool):nX n .bool [.bool x,.bool y]=some (.val (.bool (xor n (x==y)))):=by cases n<;>cases x<;>cases y<;>rfl
@[go_sem]theorem avA(b o:Nat):yx [.ptr b o]=some (.val (.ptr b o)):=rfl
@[go_sem]theorem auC(b o f:Nat):vU f [.ptr b o]=some (.val (.ptr b (o+f))):=rfl
@[go_sem]theorem auD(a:List V)(o f:Nat):vU f [.dm a o]=some (.val (.dm a (o+f))):=rfl
variable{r:Int}
theorem k8(k:IntKind)(h:0≤r):fU (.int k r)=some r.toNat:=by
 cases r with
 |ofNat n=>rfl
 |negSucc n=>exact absurd h aa
variable{z:Nat}
theorem jf(h:g≤z):b8 g z=true:=(eN _ _).2 h
variable{p:IntKind}
theorem lz{a:List V}(h:0≤r∧r<z):dY none g [.row z a,.int p r]=some (.val (.dm a (r.toNat*g))):=by
 show av (fU (.int p r)) _=_;rw[k8 p h.1];show bq (b8 (r.toNat+1) z) _=_;rw[jf aa];rfl
variable{I:Nat}
theorem cR{n:Nat}{c:Cap}(h:0≤r∧r<n):dY none g [.slice z I n c,.int p r]=some (.val (.ptr z (I+r.toNat*g))):=by
 show av (fU (.int p r)) _=_;rw[k8 p h.1];show bq (b8 (r.toNat+1) n) _=_;rw[jf aa];rfl
@[go_sem]theorem au9(s k:Nat)(a:List V)(H:ag):hH false s [.dm a k] H=eu a k:=rfl
@[go_sem]theorem au_(s k:Nat)(a:List V)(H:ag):hH true s [.dm a k] H=av (cF (eA a k) s) fun r=>some (.agg r):=rfl
@[go_sem]theorem JA(H:ag)(o:eg):(H.push o).next=H.next+1:=rfl
@[go_sem]theorem iI(H:ag)(b:Nat)(o:eg):(H.set b o).next=H.next:=rfl
@[go_sem]theorem avz(G:Nat):(ag.zero G).next=G:=rfl
attribute [go_sem↓] ag.bE ag.a_
attribute [go_sem] ag.gf fB cO dQ fM bN Nat.reduceAdd Nat.reduceMul
@[go_sem]theorem avw(b:Nat):Shape.mk .ptr b=.ptr b 0:=rfl
@[go_sem]theorem avx(b l c:Nat):Shape.mk (.slice l c) b=.slice b 0 l (.known c):=rfl
@[go_sem]theorem avv(b l:Nat):Shape.mk (.least l) b=.slice b 0 l (.least l):=rfl
@[go_sem]theorem avu(b l:Nat):Shape.mk (.bytes l) b=.slice b 0 l .mg:=rfl
def afT(o:eg):Option (List V):=match o with|.cells a 0=>some a|_=>none
@[go_sem]theorem at7(a:List V):afT (.cells a 0)=some a:=rfl
theorem gj{cs:List V}(h:c.get g=.cells cs 0):c.dw g z I=cF (eA cs z) I:=by
 unfold ag.dw ag.cells?;rw[h];rfl
theorem gk{v:V}{a:List V}(h:g<a.length):dx [v] a g=some (a.set g v):=by
 rw[nu,ay (by simpa using Nat.succ_le_of_lt h)];simp[List.set_eq_take_append_cons_drop,h]
theorem dt{p:Prop}[Decidable p](h:p):decide p=true:=bw h
theorem df{p:Prop}[Decidable p](h:¬p):decide p=false:=bp h
@[go_sem]theorem JC:(!true)=false:=rfl
@[go_sem]theorem nf:(!false)=true:=rfl
@[go_sem]theorem Mh:(true==true)=true:=rfl
@[go_sem]theorem Mg:(true==false)=false:=rfl
@[go_sem]theorem Mf:(false==true)=false:=rfl
@[go_sem]theorem Me:(false==false)=true:=rfl
@[go_sem]theorem awj(b:Bool):(xor false b)=b:=by cases b<;>rfl
@[go_sem]theorem awk(b:Bool):(xor true b)= !b:=by cases b<;>rfl
@[go_sem]theorem atZ(a:List (Nat×Nat))(c b:List V):DC a c b=av (nZ a b c) fun d=>some (.val (.agg d)):=rfl
@[go_sem]theorem at6(n:Nat)(a:List (Nat×Nat))(c b:List V):DE n a c b=av (nZ a b (rep c n)) fun d=>some (.new d (.slice n n)):=rfl
@[go_sem]theorem auF(b a:List V):nZ [] b a=some a:=rfl
@[go_sem]theorem auE(a s:Nat)(c:List (Nat×Nat))(v:V)(d b:List V):nZ ((a,s)::c) (v::d) b=bq (and (bP v) (bK (cP (cellsOf v)) s)) (av (dx (cellsOf v) b a) fun b=>nZ c d b):=rfl
@[go_sem]theorem auO(b:Bool):bP (.bool b)=true:=rfl
@[go_sem]theorem auR(k:IntKind)(n:Int):bP (.int k n)=true:=rfl
@[go_sem]theorem au0(s:List UInt8):bP (.str s)=true:=rfl
@[go_sem]theorem auY(n:Nat)(s:List V):bP (.row n s)=true:=rfl
@[go_sem]theorem auN(s:List V):bP (.agg s)=true:=rfl
@[go_sem]theorem auX(b o:Nat):bP (.ptr b o)=true:=rfl
@[go_sem]theorem auZ(b o n:Nat)(c:Cap):bP (.slice b o n c)=true:=rfl
@[go_sem]theorem auW:bP .ak=true:=rfl
@[go_sem]theorem auP:bP .emp=true:=rfl
@[go_sem]theorem auV:bP .ie=true:=rfl
@[go_sem]theorem auQ(f:Nat)(a b:List V):bP (.func f a b)=true:=rfl
@[go_sem]theorem aua(s:List V):cellsOf (.agg s)=s:=rfl
@[go_sem]theorem aub(b:Bool):cellsOf (.bool b)=[.bool b]:=rfl
@[go_sem]theorem aue(k:IntKind)(n:Int):cellsOf (.int k n)=[.int k n]:=rfl
@[go_sem]theorem aun(s:List UInt8):cellsOf (.str s)=[.str s]:=rfl
@[go_sem]theorem aul(n:Nat)(s:List V):cellsOf (.row n s)=[.row n s]:=rfl
@[go_sem]theorem auk(b o:Nat):cellsOf (.ptr b o)=[.ptr b o]:=rfl
@[go_sem]theorem aum(b o n:Nat)(c:Cap):cellsOf (.slice b o n c)=[.slice b o n c]:=rfl
@[go_sem]theorem auj:cellsOf .ak=[.ak]:=rfl
@[go_sem]theorem auc:cellsOf .emp=[.emp]:=rfl
@[go_sem]theorem aui:cellsOf .ie=[.ie]:=rfl
@[go_sem]theorem aud(f:Nat)(a b:List V):cellsOf (.func f a b)=[.func f a b]:=rfl
@[go_sem]theorem avE(b:Bool):V.one (.bool b)=true:=rfl
@[go_sem]theorem avH(k:IntKind)(n:Int):V.one (.int k n)=true:=rfl
@[go_sem]theorem avQ(s:List UInt8):V.one (.str s)=true:=rfl
@[go_sem]theorem avO(n:Nat)(s:List V):V.one (.row n s)=true:=rfl
@[go_sem]theorem avN(b o:Nat):V.one (.ptr b o)=true:=rfl
@[go_sem]theorem avP(b o n:Nat)(c:Cap):V.one (.slice b o n c)=true:=rfl
@[go_sem]theorem avM:V.one .ak=true:=rfl
@[go_sem]theorem avF:V.one .emp=true:=rfl
@[go_sem]theorem avL:V.one .ie=true:=rfl
@[go_sem]theorem avG(f:Nat)(a b:List V):V.one (.func f a b)=true:=rfl
@[go_sem]theorem atJ:de []=true:=rfl
@[go_sem]theorem atI(v:V)(l:List V):de (v::l)=and v.one (de l):=rfl
@[go_sem]theorem avs:cP ([]:List h)=0:=rfl
@[go_sem]theorem avr(a:h)(l:List h):cP (a::l)=cP l+1:=rfl
@[go_sem]theorem anO(n:Nat):bK n n=true:=Nat.beq_refl n
@[go_sem]theorem atH:and true true=true:=rfl
@[go_sem]theorem av'(a:List h)(v:h)(l:List h):dx a (v::l) 0=mc a (v::l):=rfl
@[go_sem]theorem awa(a:List h)(v:h)(l:List h)(n:Nat):dx a (v::l) (n+1)=av (dx a l n) fun r=>some (v::r):=rfl
@[go_sem]theorem avV(l:List h):mc [] l=some l:=rfl
@[go_sem]theorem avW(x y:h)(a l:List h):mc (x::a) (y::l)=av (mc a l) fun r=>some (x::r):=rfl
@[go_sem]theorem av3(l:List h):rep l 0=[]:=rfl
@[go_sem]theorem av4(l:List h)(n:Nat):rep l (n+1)=ez l (rep l n):=rfl
@[go_sem]theorem BL(l:List h):ez [] l=l:=rfl
@[go_sem]theorem au5(a:h)(l m:List h):ez (a::l) m=a::ez l m:=rfl
@[go_sem]theorem at3(v:V):DD [v]=bq (bP v) (some (.new (cellsOf v) .ptr)):=rfl
def q4(g:Bool)(s o:Nat)(H:ag)(b:Nat)(x:eg):Option V:=match x with
 |.cells a c=>match H.gh b c,g with
  |true,false=>eu a o
  |true,true=>av (cF (eA a o) s) fun r=>some (.agg r)
  |false,_=>none
 |_=>none
def CE(s o:Nat)(H:ag)(b:Nat)(v:V)(x:eg):Option (V×ag):=match x with
 |.cells a 0=>bq (and (bP v) (bK (cP (cellsOf v)) s)) (bq (de (cellsOf v)) (av (dx (cellsOf v) a o) fun c=>some (V.undef,H.set b (.cells c 0))))
 |.cells _ _=>bq (and (bP v) (bK (cP (cellsOf v)) s)) (av (H.e5 b o (cellsOf v)) fun H=>some (V.undef,H))
 |_=>none
@[congr]theorem au6{x a:eg}(h:x=a):q4 m g z c I x=q4 m g z c I a:=by rw[h]
@[congr]theorem awb{v:V}{x a:eg}(h:x=a):CE g z c I v x=CE g z c I v a:=by rw[h]
@[go_sem]theorem au7(s o:Nat)(H:ag)(b:Nat)(a:List V):q4 false s o H b (.cells a 0)=eu a o:=rfl
@[go_sem]theorem au8(s o:Nat)(H:ag)(b:Nat)(a:List V):q4 true s o H b (.cells a 0)=av (cF (eA a o) s) fun r=>some (.agg r):=rfl
@[go_sem]theorem aqJ(s o:Nat)(H:ag)(b:Nat)(v:V)(a:List V):CE s o H b v (.cells a 0)=bq (and (bP v) (bK (cP (cellsOf v)) s)) (bq (de (cellsOf v)) (av (dx (cellsOf v) a o) fun c=>some (V.undef,H.set b (.cells c 0)))):=rfl
@[go_sem]theorem amJ(g:Bool)(s b o:Nat)(H:ag):hH g s [.ptr b o] H=q4 g s o H b (H.get b):=by
 cases g
 ·show H.load b o=_;unfold ag.load ag.cells? q4;cases H.get b with
  |cells c a=>cases e:H.gh b a<;>simp[e,bq,av]
  |_=>rfl
 ·show av (H.dw b o s) _=_;unfold ag.dw ag.cells? q4;cases H.get b with
  |cells c a=>cases e:H.gh b a<;>simp[e,bq,av]
  |_=>rfl
@[go_sem]theorem awc(s b o:Nat)(v:V)(H:ag):qm s [.ptr b o,v] H=CE s o H b v (H.get b):=by
 show bq (and (bP v) (bK (cP (cellsOf v)) s)) (av (H.e5 b o (cellsOf v)) fun H=>some (V.undef,H))=_;cases e:H.get b with
 |cells a g=>
  cases g with
  |zero=>
   unfold ag.e5;rw[e];show bq _ (av (bq (de (cellsOf v)) (av (dx (cellsOf v) a o) fun c=>some (H.set b (.cells c 0)))) _)=_;rw[aqJ];cases de (cellsOf v)with
   |false=>rfl
   |true=>cases dx (cellsOf v) a o<;>rfl
  |succ g=>rfl
 |none=>unfold ag.e5;rw[e];cases(and (bP v) (bK (cP (cellsOf v)) s))<;>rfl
 |b5 x y=>unfold ag.e5;rw[e];cases(and (bP v) (bK (cP (cellsOf v)) s))<;>rfl
 |cv x=>unfold ag.e5;rw[e];cases(and (bP v) (bK (cP (cellsOf v)) s))<;>rfl
attribute [go_sem] Int.toNat_natCast_add_one
theorem iH{a:List V}{l:IntKind}(h:0≤r∧r*g≤1099511627776∧r≤1099511627776):mS g a [.int p r,.int l r]=some (.new (rep a r.toNat) (.slice r.toNat r.toNat)):=by
 obtain⟨m,rfl⟩:∃m:Nat,r=m:=⟨r.toNat,aa⟩;have b:m*g≤1099511627776:=by have:=h.2.1;rw[←e7]at this;omega
 simp only[mS,show fU (V.int p (m:Int))=some m from rfl,show fU (V.int l (m:Int))=some m from rfl,yz,bN];rw[jf (aR m),jf (show dW m g≤1099511627776 from b),jf (aa:m≤1099511627776)];rfl
variable{F:Option V}
theorem qQ{a:Option V}{l h:Nat}(e:Option.casesOn (motive:=fun _=>Option Nat) F (some 0) fU=some l)(d:Option.casesOn (motive:=fun _=>Option Nat) a (some g) fU=some h)(b:l≤h)(c:h≤z):jg F a g z=some (l,h):=by
 unfold jg;rw[d];show av (Option.casesOn (motive:=fun _=>Option Nat) F (some 0) fU) _=_;rw[e];show bq (and (b8 h z) (b8 l h)) _=_;rw[jf c,jf b];rfl
theorem acF{l h:Nat}{a:List V}{b:Option V}(i:a.length=z*g)(f:jg F b z z=some (l,h))(j:l≤h)(k:h≤z):wP g z a F b none=some (.val (.row (h-l) ((a.drop (l*g)).take ((h-l)*g)))):=by
 show av (jg F b z z) _=_;rw[f];show Bool.casesOn (motive:=fun _=>Option bx) (bK l h) _ _=_;by_cases e:l=h
 ·subst e;rw[anO];simp
 ·rw[show bK l h=false from mB.2 fun c=>e ((beq_eq _ _).1 c)];show av (cF (eA a (dW l g)) (dW (iz h l) g)) _=_;rw[jT,eR,ay]
  ·rfl
  ·have m:(h-l)*g≤(z-l)*g:=dz g aa;have n:(z-l)*g=z*g-l*g:=Nat.sub_mul z l g;have:dW (iz h l) g=(h-l)*g:=rfl;have d:dW l g=l*g:=rfl;rw[this,gF,d,i];omega
theorem Cy{a:List V}(c:a.length=z*g)(b:0≤r∧r≤z):slice3 (jA g) false true false [.row z a,.int p r]=some (.val (.row r.toNat (a.take (r.toNat*g)))):=by
 show wP g z a none (some (.int p r)) none=_;rw[acF (l:=0) (h:=r.toNat) c (qQ rfl (k8 p b.1) (ck _) aa) (ck _) aa];simp
theorem aql{a:List V}(b:a.length=z*g)(c:0≤r∧r≤z):slice3 (jA g) true false false [.row z a,.int p r]=some (.val (.row (z-r.toNat) (a.drop (r.toNat*g)))):=by
 show wP g z a (some (.int p r)) none none=_;rw[acF (l:=r.toNat) (h:=z) b (qQ (k8 p c.1) rfl aa (aR _)) aa (aR _)];rw[cq];rw[gF,b,Nat.sub_mul];exact aR _
section
variable {P:Program}{G:Nat}
variable{A:FuncId}{K:V→ag→Prop}
theorem Ym{m r:List V}{F:List V}(M:c.get g=.cells F 0)(J:∃o n s,V.slice g o n s∈m)(L:dy c (c.set g .none) m r)
 (B:e6 P G (.fn A) r (c.set g .none) K):e6 P G (.fn A) m c K:=by
 refine⟨B.1,fun k w E j O z=>?_⟩;obtain⟨l,R⟩:∃l,k g=some l:=by
  obtain⟨o,n,s,S⟩:=J;obtain⟨i,Q⟩:=List.getElem?_of_mem S;obtain⟨x,_,T⟩:=z.get i _ Q;cases T with
  |slice h _ _=>exact⟨_,h⟩
 have q:Cut 0 c (c.set g .none):=by
  refine⟨fun y=>?_,rfl,fun y y' X Y Z d a u f=>?_⟩
  ·rw[ag.a_];split
   ·exact .inr ⟨ck _,rfl⟩
   ·exact .inl rfl
  ·rw[ag.a_]at f⊢;split at f
   ·rename_i e;subst e;rw[M]at a;cases a;exact absurd rfl d
   ·rw[a]at f;cases f
 have C:=j.vR q (ck _);have N:Ext k c w (k.dr c (c.set g .none) w) (c.set g .none) w:=by
  refine⟨C.rel,tZ j,fun a u=>absurd (a.symm.trans u) aJ,fun{y} _ d _=>?_,aR _,fun _ _=>rfl,aR _,gW.refl w,fun{y l1} t p=>⟨?_,rfl⟩,C.l6⟩
  ·rw[ag.a_,au (fun e=>by rw[←e,R]at d;cases d)]
  ·rw[ag.a_];split
   ·rfl
   ·exact p
 refine(B.2 (k.dr c (c.set g .none) w) w E (j.cut q) O (bC.dr j q L z)).mono ?_;rintro e w' ⟨v,U,D,W,t,p,H,I⟩;exact⟨v,U,D,W,t,N.trans p,H,I⟩
theorem iL{a args2:List V}{b:Nat}{cs:List V}(h:∀c,e6 P G (.fn A) args2 c fun v d=>v=s∧d=c)(m:c.get b=.cells cs 0)
 (k:∃q n e,V.slice b q n e∈a) (l:dy c (c.set b .none) a args2) (p:f (put o j s) (c.set b .none)):ow P G j f o c (some (.fn A,a)):=
 (Ym m k l (h _)).mono fun v d ⟨g,i⟩=>by rw[g,i];exact p
end
abbrev af(a b:Nat):b_:=ex a (mv (rd b))
abbrev aA(a i b:Nat):b_:=ex a (fa i (rd b))
abbrev aC(a b:Nat):b_:=ex a (ct false 1 (rd b))
abbrev aL(a n b:Nat):b_:=ex a (ct true n (rd b))
abbrev ao(a b:Nat):b_:=ex a (fq (rd b))
abbrev bI(a:Nat)(z:Int):b_:=ex a (fq (kc (.int .i64 z)))
abbrev aP(a:Nat)(v:V):b_:=ex a (fq (kc v))
abbrev eL(a:Nat)(v:V):b_:=ex a (mv (kc v))
abbrev aX(a n b c:Nat):b_:=ex a (dX none n (rd b) (rd c))
abbrev cU(a b c:Nat):b_:=ex a (bi .add (rd b) (rd c))
abbrev b9(a b:Nat)(z:Int):b_:=ex a (bi .add (rd b) (kc (.int .i64 z)))
abbrev cL(a b:Nat)(z:Int):b_:=ex a (bi .sub (rd b) (kc (.int .i64 z)))
abbrev cw(a b c:Nat):b_:=ex a (bi .lss (rd b) (rd c))
abbrev bD(a:Nat)(o:BinOp)(b c:Nat):b_:=ex a (bi o (rd b) (rd c))
abbrev bH(a:Nat)(o:BinOp)(b:Nat)(z:Int):b_:=ex a (bi o (rd b) (kc (.int .i64 z)))
abbrev bR(a:Nat)(o:BinOp)(b:Nat)(k:IntKind)(z:Int):b_:=ex a (bi o (rd b) (kc (.int k z)))
abbrev aY(a b:Nat):b_:=ex a (fF (rd b))
abbrev c7(a:Nat)(k:IntKind)(b:Nat):b_:=ex a (j8 k (rd b))
abbrev fL(a b:Nat):b_:=ex a (not (rd b))
abbrev bn(a i b:Nat):b_:=ex a (ext i (rd b))
abbrev b7(a b:Nat):b_:=ex a (box (rd b))
abbrev dM(a b c:Nat):b_:=ex a (pick (rd b) (rd c) (kc (.bool false)))
abbrev en(a b c:Nat):b_:=ex a (pick (rd b) (kc (.bool true)) (rd c))
abbrev eo(a i j b c:Nat):b_:=ex a (ap i j (rd b) (rd c))
abbrev aF(n a b:Nat):b_:=eP (st n (rd a) (rd b))
abbrev bk(a f b:Nat):b_:=ex a (bF f [rd b])
abbrev bf(a f b c:Nat):b_:=ex a (bF f [rd b,rd c])
abbrev kG(a f b c d:Nat):b_:=ex a (bF f [rd b,rd c,rd d])
abbrev ey(a b:Nat):b_:=re a (ct false 1 (rd b))
abbrev cQ(a n b:Nat):b_:=re a (ct true n (rd b))
abbrev bG(j:Nat)(t:Bool)(a b:Nat):b_:=aN j t a (mv (rd b))
abbrev c9(j:Nat)(t:Bool)(a b:Nat):b_:=aN j t a (ct false 1 (rd b))
abbrev jY(j:Nat)(t:Bool)(a n b:Nat):b_:=aN j t a (ct true n (rd b))
abbrev c6(j:Nat)(t:Bool)(a i b:Nat):b_:=aN j t a (fa i (rd b))
abbrev ef(j:Nat)(t:Bool)(a:Nat)(o:BinOp)(b:Nat)(z:Int):b_:=aN j t a (bi o (rd b) (kc (.int .i64 z)))
abbrev an(l:List b_)(c:ah):ah:=.seq (.aH l) c
abbrev aB(l:List b_):ah:=.seq (.aH l) .ret
abbrev bl(n:Nat)(a b:ah):ah:=.cond (rd n) a b
abbrev bm(l:List b_)(n:Nat)(a:ah)(b:ah):ah:=.seq (.seq (.aH l) (.cond (rd n) a .skip)) b
def ah.erase:ah→ah
 |.seq a b=>.seq a.erase b.erase
 |.cond x a b=>.cond x a.erase b.erase
 |.block id b=>.block id b.erase
 |.loop b=>.loop b.erase
 |.cut _ _ b=>b.erase
 |.skip=>.skip
 |.ret=>.ret
 |.exit id=>.exit id
 |.aH l=>.aH l
def ah.nS(B n:Nat):ah→Prop
 |.seq a b=>a.nS B n∧b.nS B n
 |.cond _ a b=>a.nS B n∧b.nS B n
 |.block _ b=>b.nS B n
 |.loop b=>b.nS B n
 |.cut c d b=>B≤c∧n≤d∧b.nS B n
 |_=>True
theorem ahi{x y:ah}(h:ah.seq x y=O.erase)(d:¬∃B n c,O=ah.cut B n c):∃a b,O=.seq a b∧x=a.erase∧y=b.erase:=by
 cases O with
 |seq a b=>simp only[ah.erase,ah.seq.injEq]at h;exact⟨a,b,rfl,h⟩
 |cut B n c=>exact absurd ⟨B,n,c,rfl⟩ d
 |_=>simp only[ah.erase]at h;cases h
theorem ahd{x y:ah}{f:Fr→V}(h:ah.cond f x y=O.erase)(i:¬∃B n c,O=ah.cut B n c):∃a b,O=.cond f a b∧x=a.erase∧y=b.erase:=by
 cases O with
 |cond g a b=>simp only[ah.erase,ah.cond.injEq]at h;obtain⟨rfl,d,e⟩:=h;exact⟨a,b,rfl,d,e⟩
 |cut B n c=>exact absurd ⟨B,n,c,rfl⟩ i
 |_=>simp only[ah.erase]at h;cases h
theorem ahc{x:ah}(h:ah.block a x=O.erase)(e:¬∃B n c,O=ah.cut B n c):∃b,O=.block a b∧x=b.erase:=by
 cases O with
 |block j b=>simp only[ah.erase,ah.block.injEq]at h;obtain⟨rfl,d⟩:=h;exact⟨b,rfl,d⟩
 |cut B n c=>exact absurd ⟨B,n,c,rfl⟩ e
 |_=>simp only[ah.erase]at h;cases h
theorem ahf{x:ah}(h:ah.loop x=O.erase)(c:¬∃B n b,O=ah.cut B n b):∃a,O=.loop a∧x=a.erase:=by
 cases O with
 |loop a=>simp only[ah.erase,ah.loop.injEq]at h;exact⟨a,rfl,h⟩
 |cut B n b=>exact absurd ⟨B,n,b,rfl⟩ c
 |_=>simp only[ah.erase]at h;cases h
theorem ahg{l:List b_}(h:ah.aH l=O.erase)(c:¬∃B n b,O=ah.cut B n b):O=.aH l:=by
 cases O with
 |aH a=>simp only[ah.erase,ah.aH.injEq]at h;rw[h]
 |cut B n b=>exact absurd ⟨B,n,b,rfl⟩ c
 |_=>simp only[ah.erase]at h;cases h
theorem Y_(h:ah.skip=O.erase)(b:¬∃B n a,O=ah.cut B n a):O=.skip:=by
 cases O with
 |skip=>rfl
 |cut B n a=>exact absurd ⟨B,n,a,rfl⟩ b
 |_=>simp only[ah.erase]at h;cases h
theorem ahh(h:ah.ret=O.erase)(b:¬∃B n a,O=ah.cut B n a):O=.ret:=by
 cases O with
 |ret=>rfl
 |cut B n a=>exact absurd ⟨B,n,a,rfl⟩ b
 |_=>simp only[ah.erase]at h;cases h
theorem ahe(h:ah.exit a=O.erase)(c:¬∃B n b,O=ah.cut B n b):O=.exit a:=by
 cases O with
 |exit j=>simp only[ah.erase,ah.exit.injEq]at h;rw[h]
 |cut B n b=>exact absurd ⟨B,n,b,rfl⟩ c
 |_=>simp only[ah.erase]at h;cases h
variable{J:ag}
theorem Cut.down{B:Nat}(h:B≤a)(b:Cut a c J):Cut B c J:=
 ⟨fun y=>(b.sub y).imp id fun⟨d,e⟩=>⟨cI h d,e⟩,b.next,b.b5⟩
section
variable {P:Program}{G B n:Nat}{N:eF}{T:cE}
theorem ar1(hT:c4 P T)(cA:jo P N)(fJ:P.follows .mixedOrders=true):∀(m:Nat) (c:Code) (k:ah),SizeOf.sizeOf c+SizeOf.sizeOf k≤m→comp N T c=some k.erase→k.nS B n→codeOk G n c=true→∀(F:Fr) (H:ag) (Q:X→Fr→ag→Prop),wp P G k F H Q→hU P G B n false c F H Q:=by
 intro m;induction m with
 |zero=>
  intro c k q;cases k<;>simp at q
 |succ m r=>
  intro c k q d p w F H Q h;by_cases o:∃J M E,k=.cut J M E
  ·obtain⟨J,M,E,rfl⟩:=o;obtain⟨R,U,u,v,h3⟩:=h;obtain⟨W,Y,g3⟩:=p;refine adI (u.down W) (fun t ht=>v t (ei ht Y)) (r c E ?_ d g3 w R U Q h3);simp at q;omega
  cases c with
  |skip=>
   have d:some ah.skip=some k.erase:=d;cases Y_ (Option.some.inj d) o;exact Dp h
  |region id al V=>
   obtain⟨l,hp,d⟩:=aD.1 (show av (plan N T al.toList V) (fun l=>some (ah.aH l))=some k.erase from d);cases ahg (Option.some.inj d) o;exact Dk hT cA fJ w hp h
  |seq a b=>
   obtain⟨x,z,d⟩:=aD.1 (show av (comp N T a) (fun x=>av (comp N T b) fun y=>some (ah.seq x y))=some k.erase from d);obtain⟨y,D,d⟩:=aD.1 d;obtain⟨C,s,rfl,rfl,rfl⟩:=ahi (Option.some.inj d) o;obtain⟨u,v⟩:=(cz _ _).mp (show and (codeOk G n a) (codeOk G n b)=true from w);simp at q;refine Dn (zp (fun e O S g=>?_) (r a C aa z p.1 u F H _ h));cases e with
   |norm=>exact r b s aa D p.2 v O S Q g
   |ret=>exact g
   |exit i=>exact g
  |cond x a b=>
   obtain⟨f,L,d⟩:=aD.1 (show av (gQ x) (fun f=>av (comp N T a) fun x=>av (comp N T b) fun y=>some (ah.cond f x y))=some k.erase from d);obtain⟨ap,z,d⟩:=aD.1 d;obtain⟨y,D,d⟩:=aD.1 d;obtain⟨C,s,rfl,rfl,rfl⟩:=ahd (Option.some.inj d) o;obtain⟨K,Z⟩:=(cz _ _).mp (show and (sG G n x) (and (codeOk G n a) (codeOk G n b))=true from w);obtain⟨u,v⟩:=(cz _ _).mp Z;simp at q;have A:qy (f F) (wp P G C F H Q) (wp P G s F H Q):=h;unfold qy at A;split at A
   ·rename_i e;exact xq K L e (r a C aa z p.1 u F H Q A)
   ·rename_i e;exact xq K L e (r b s aa D p.2 v F H Q A)
   ·exact A.elim
  |block id b=>
   obtain⟨x,z,d⟩:=aD.1 (show av (comp N T b) (fun x=>some (ah.block id x))=some k.erase from d);obtain⟨s,rfl,rfl⟩:=ahc (Option.some.inj d) o;simp at q;exact Dg (r b s aa z p w F H _ h)
  |loop b=>
   obtain⟨x,z,d⟩:=aD.1 (show av (comp N T b) (fun x=>some (ah.loop x))=some k.erase from d);obtain⟨s,rfl,rfl⟩:=ahf (Option.some.inj d) o;obtain⟨I,j,u,v⟩:=h;simp at q;exact Dj I (fun i F H hi=>r b s aa z p w F H _ (v i F H hi)) u
  |rangeFunc g ps a b=>cases d
  |exit id=>
   have d:some (ah.exit id)=some k.erase:=d;cases ahe (Option.some.inj d) o;exact Dh h
  |scope b=>
   simp at q;exact Dm (r b k aa d p w F H Q h)
  |label l=>
   have d:some ah.skip=some k.erase:=d;cases Y_ (Option.some.inj d) o;exact Di h
  |goto l=>cases d
  |ret=>
   have d:some ah.ret=some k.erase:=d;cases ahh (Option.some.inj d) o;exact Dl h
  |refuse l=>cases d
variable{A:FuncId}{b:List V}{K:V→ag→Prop}
theorem afw(hT:c4 P T)(cA:jo P N)(fJ:P.follows .mixedOrders=true){fn:Func}{m:ah}{f:List gV}(u:N.get aW A=some fn)(a:vI G N T fn=some (O,f))(w:m.erase=O)
 (y:b8 (cP b) fn.ntmps=true) (s:m.nS c.next fn.ntmps) (h:iA P G m (gl f K) (l5 b 0 .nil) c):e6 P G (.fn A) b c K:=by
 subst w;obtain⟨o,q,a⟩:=aD.1 a;cases k:qW G fn o with
 |false=>rw[k]at a;cases a
 |true=>
  rw[k]at a;obtain⟨z,v,a⟩:=aD.1 (show av (comp N T o) (fun O=>av (A_ T fn.results.toList) fun r=>some (O,r))=some (m.erase,f)from a);obtain⟨B,p,a⟩:=aD.1 a;cases a;have t:codeOk G fn.ntmps o=true:=by
   unfold qW at k;rw[cz,cz]at k;exact k.2.1
  refine Ic hT cA u q (by rw[k,y];rfl) (zp (fun x n j g=>?_) (ar1 hT cA fJ _ o m (aR _) v s t _ _ _ h));cases x with
  |exit i=>exact g.elim
  |norm=>
   refine⟨aJ,?_⟩;have d:oI K j (kD n j f):=g;cases e:kD n j f with
   |none=>rw[e]at d;exact d.elim
   |some l=>rw[e]at d;exact⟨l,(Cg p).trans e,d⟩
  |ret=>
   refine⟨aJ,?_⟩;have d:oI K j (kD n j f):=g;cases e:kD n j f with
   |none=>rw[e]at d;exact d.elim
   |some l=>rw[e]at d;exact⟨l,(Cg p).trans e,d⟩
end
def ke(f:Nat→V):Nat→Fr
 |0=>.nil
 |n+1=>put (ke f n) (some n) (f n)
theorem o8(f:Nat→V):∀ {n t:Nat},t<n→rd t (ke f n)=f t
 |n+1,t,h=>by
  show rd t (put (ke f n) (some n) (f n))=_;rw[abS];by_cases e:n=t
  ·rw[ay e,e]
  ·rw[au e];exact o8 f aa
section
variable {P:Program}{G:Nat}{F:Fr}{H:ag}{R:X→Fr→ag→Prop}
theorem KT{B:Nat}(b:ag)(f:Nat→V)(d:Cut B H b)(e:∀t,t<a→cr H b (rd t F) (f t))(h:iA P G O R (ke f a) b):iA P G (.cut B a O) R F H:=
 ⟨ke f a,b,d,fun t c=>by rw[show(ke f a).get V.undef t=rd t (ke f a)from rfl,o8 f c];exact e t c,h⟩
@[go_sem]theorem ata{F:Fr}{H:ag}(b:Bool)(c:b4):pH P G b c j f F H (.aK [])=f (put F j V.undef) H:=rfl
def nA(g:List V→Option bx)(a:List (Fr→V)):b4:=.pu a g
@[go_sem↓]theorem asV(g:List V→Option bx)(a:List (Fr→V)):dF P G (nA g a) j F H f=fY j f F H (g (vals a F)):=rfl
end
theorem tn{a b c:Nat}(h:c≤1):qN [.int .u64 (a:Int),.int .u64 (b:Int),.int .u64 (c:Int)]=some (.val (.aK [.int .u64 (((a+b+c)%18446744073709551616:Nat):Int),.int .u64 (((a+b+c)/18446744073709551616:Nat):Int)])):=by
 show bq (b8 c 1) _=_;rw[jf h];rfl
theorem CJ{a b c:Nat}(h:c≤1):sS [.int .u64 (a:Int),.int .u64 (b:Int),.int .u64 (c:Int)]=some (.val (.aK [.int .u64 (((a+18446744073709551616-b-c)%18446744073709551616:Nat):Int),.int .u64 ((if b+c≤a then 0 else 1:Nat):Int)])):=by
 show bq (b8 c 1) (some (bx.val (.aK [_,.int .u64 (.ofNat (Bool.casesOn (motive:=fun _=>Nat) (b8 (b+c) a) 1 0))])))=_;rw[jf h];by_cases e:b+c≤a
 ·rw[jf e,ay e];rfl
 ·rw[show b8 (b+c) a=false from mB.2 fun d=>e ((eN _ _).1 d),au e];rfl
inductive bu (H:ag) (sz:Nat):V→List V→Nat→Prop
 |nil:bu H sz .ak [] 0
 |cells {b n g f:Nat}{xs:List V} (hb:H.get b=.cells xs g) (hg:H.get g=.b5 b f) (hf:f≤b) (h0:g≠0) (hn:xs.length=n*sz) (hl:g<H.next) (auK:b<H.next):bu H sz (.slice b 0 n (.grown sz)) xs g
theorem yg(h:c.get g=.b5 I z)(b:z≤a):c.gh a g=true:=gi.2 (.inr ⟨I,z,h,b⟩)
variable{b:List V}
theorem bu.other{v:V}{A:List V}(h:bu c a v b z)(n:bu c g s A I)(B:c.next≤J.next)(i:∀y,y<c.next→(I=0∨y≠I)→J.get y=c.get y)(u:I=0∨I≠z):bu J a v b z:=by
 cases h with
 |nil=>exact .nil
 |cells d r q l w t p=>
  rename_i j m f;have o:I=0∨j≠I:=by
   cases n with
   |nil=>exact .inl rfl
   |cells D x F C K G E=>
    refine .inr fun e=>?_
    rw[e,x]at d;cases d
  exact .cells (by rw[i _ p o];exact d) (by rw[i _ t (u.imp id fun e k=>e k.symm)];exact r) q l w aa aa
theorem bu.push{v:V}(h:bu c a v b g)(o:eg):bu (c.push o) a v b g:=by
 cases h with
 |nil=>exact .nil
 |cells e j i d l k f=>
  exact .cells (by rw[ag.bE,au aa];exact e) (by rw[ag.bE,au aa];exact j) i d l (Nat.lt_succ_of_lt k) (Nat.lt_succ_of_lt f)
theorem bu.set{v:V}{y:Nat}{cs:List V}(h:bu c a v b g)(j:c.get y=.cells cs 0)(o:eg):bu (c.set y o) a v b g:=by
 cases h with
 |nil=>exact .nil
 |cells d f l i n m k=>
  refine .cells ?_ ?_ l i n m k
  ·rw[ag.a_,au (fun e=>?_)]
   ·exact d
   ·rw[←e,j]at d;cases d;exact i rfl
  ·rw[ag.a_,au (fun e=>?_)]
   ·exact f
   ·rw[←e,j]at f;cases f
theorem bu.low{v:V}(h:bu c a v b g)(d:∀z,z<c.next→J.get z=c.get z)(n:c.next≤J.next):bu J a v b g:=by
 cases h with
 |nil=>exact .nil
 |cells f k j e m l i=>exact .cells (by rw[d _ i];exact f) (by rw[d _ l];exact k) j e m aa aa
theorem bu.slice{v:V}{e:List V}(h:bu c a v e g)(d:g≠0):∃b n,v=.slice b 0 n (.grown a):=by
 cases h with
 |nil=>exact absurd rfl d
 |cells i d k f p m j=>exact⟨_,_,rfl⟩
theorem bu.ne{v:V}{cs:List V}{k:Nat}(h:bu c a v b g)(d:c.get z=.cells cs k):g=0∨z≠g:=by
 cases h with
 |nil=>exact .inl rfl
 |cells j f m i o n l=>
  refine .inr fun e=>?_
  rw[e,f]at d;cases d
theorem bu.len{v:V}(h:bu c a v b g)(d:0<a):eC v=some (.val (.int .i64 ((b.length/a:Nat):Int))):=by
 cases h with
 |nil=>simp[eC];rfl
 |cells i m l f e n j=>
  rw[e,td _ d];rfl
theorem A6(h:c.get a=.cells b g)(d:c.gh a g=true):c.cells? a=some b:=by
 unfold ag.cells?;rw[h];show bq (c.gh a g) _=_;rw[d];rfl
theorem bu.dw{d:Cap}{e:Nat}(h:bu c z (.slice a g I d) b e)(k:Nat):c.dw a 0 k=cF b k:=by
 cases h with
 |cells f j i l o n m=>
  unfold ag.dw;rw[A6 f (yg j i)];show cF (eA b 0) k=_;rw[eY]
theorem jH(h:b.length=a):cF b a=some b:=by
 rw[eR,ay aa,cq aa]
theorem bu.dr{H H2:ag}{v:V}{j:List V}(h:bu H a v b g)(p:0<a)(l:∀y,g≠0→H.get y=.cells b g→H2.get y=.none)(c:dy H H2 b j):∃n,cr H H2 v (.row n j)∧n*a=b.length:=by
 cases h with
 |nil=>cases c;exact⟨0,.fQ,aJ⟩
 |cells d o m k i s r=>
  rename_i q n f;refine⟨n,?_,i.symm⟩;by_cases e:n=0
  ·subst e;have:b=[]:=List.length_eq_zero_iff.1 aa;subst this;cases c;exact .e4 _ _ _
  ·refine .row (m:=n*a) ?_ (Nat.mul_pos (jP e) p) (l _ k d) c;unfold ag.dw;rw[A6 d (yg o m)];show cF (eA b 0) (n*a)=_;rw[eY,jH i]
theorem su(h:a≠0):fy a=false:=by
 cases a with
 |zero=>exact absurd rfl h
 |succ a=>rfl
theorem p0(h:a≤1099511627776∧a*g≤1099511627776):ju a g=true:=by
 unfold ju;rw[jf h.1,jf (show dW a g≤_ from h.2)];rfl
section
variable {P:Program}{G:Nat}{F:Fr}{H:ag}{d:Option Nat}{K:Fr→ag→Prop}
theorem Y1{bytes n:Nat}{v:V}{new:List V}(k:bu H a v b g)(E:j_ s=some n)(G:ec H a n s=some new)(M:n≠0)(u:new.length=n*a)(w:0<a)(N:de new=true)(r:b.length+new.length≤1073741824∧bytes≤1024)(R:H.next≠0)
 (t:∀A i o,bu i a A (b++new) o→(g=0∧o=H.next+1∨g≠0∧o=g)→(∀y,y<H.next→(g=0∨y≠g)→i.get y=H.get y)→H.next<i.next→K (put F d A) i):gT d K F (ga a bytes [v,s] H):=by
 have B:ga a bytes [v,s] H=kL a bytes v n new H:=by
  show av (j_ s) (fun n=>av (ec H a n s) fun new=>kL a bytes v n new H)=_;rw[E];show av (ec H a n s) _=_;rw[G];rfl
 have z:=su M;have U:n≤n*a:=Nat.le_mul_of_pos_right n w;have D:∀(h:List V) (m:Nat),h.length=m*a→bu ((H.push (.cells h (Nat.succ H.next))).push (.b5 H.next H.next)) a (.slice H.next 0 m (.grown a)) h (H.next+1):=by
  intro h m L;refine .cells (f:=H.next) ?_ ?_ (aR _) aa L ?_ ?_
  ·rw[ag.bE,au (by show¬(H.next+1=H.next);omega),ag.bE,ay rfl]
  ·rw[ag.bE,ay (show(H.push (.cells h (Nat.succ H.next))).next=H.next+1 from rfl)]
  ·show H.next+1<H.next+1+1;omega
  ·show H.next<H.next+1+1;omega
 have C:∀(h:List V) y,y<H.next→((H.push (.cells h (Nat.succ H.next))).push (.b5 H.next H.next)).get y=H.get y:=by
  intro h y p;rw[ag.bE,au (by show¬(H.next+1=y);omega),ag.bE,au aa]
 rw[B];cases k with
 |nil=>
  have l:kL a bytes .ak n new H=l7 H a n new:=by
   show Bool.casesOn (motive:=fun _=>Option (V×ag)) (fy n) (bq (ju n bytes) (l7 H a n new)) _=_;rw[z,p0 ⟨aa,cI (jO (aa:n≤1073741824) r.2) aj⟩];rfl
  rw[l];exact t _ _ _ (D new n u) (.inl ⟨rfl,rfl⟩) (fun y p _=>C _ y p) (by show H.next<H.next+1+1;omega)
 |cells q k I j x S Q=>
  rename_i c m f;have T:m≤m*a:=Nat.le_mul_of_pos_right m w;have J:H.dw c 0 (m*a)=some b:=by
   unfold ag.dw;rw[A6 q (yg k I)];show cF (eA b 0) (m*a)=_;rw[eY,jH x]
  have l:kL a bytes (.slice c 0 m (.grown a)) n new H=some (.slice H.next 0 (m+n) (.grown a),(H.push (.cells (b++new) g)).set g (.b5 H.next H.next)):=by
   show Bool.casesOn (motive:=fun _=>Option (V×ag)) (fy n) (bq (ju (m+n) bytes) (bq (and (bK a a) (de new)) (av (H.dw c 0 (m*a)) fun P=>qP H a c (m+n) (ez P new)))) _=_;rw[z,p0 ⟨aa,cI (jO (aa:m+n≤1073741824) r.2) aj⟩,N,show bK a a=true from Nat.beq_refl a,J];show qP H a c (m+n) (ez b new)=_;unfold qP;rw[q];show eg.casesOn (motive:=fun _=>Option (V×ag)) (H.get g) _ _ _ _=_;rw[k];show bq (and (bK c c) (!(fy g))) _=_;rw[show bK c c=true from Nat.beq_refl c,su j,iV];rfl
  rw[l];refine t _ _ g ?_ (.inr ⟨j,rfl⟩) (fun y p O=>?_) (by show H.next<H.next+1;omega)
  ·refine .cells (f:=H.next) ?_ ?_ (aR _) j (by rw[bt,x,u,cZ]) ?_ ?_
   ·rw[ag.a_,au aa,ag.bE,ay rfl]
   ·rw[ag.a_,ay rfl]
   ·show g<H.next+1;omega
   ·show H.next<H.next+1;omega
  ·rw[ag.a_,au (fun e=>(O.resolve_left j) e.symm),ag.bE,au aa]
end
def cn(l:List UInt8):List V:=l.map fun c=>V.int .u8 (c.toNat:Int)
theorem DK:∀l:List UInt8,bytesOf (cn l)=some l
 |[]=>rfl
 |c::l=>by
  show bq (b8 (Nat.succ c.toNat) 256) (av (bytesOf (cn l)) fun r=>some (gG c.toNat::r))=_;rw[DK l,jf (by have:=c.toNat_lt;omega)];show some (gG c.toNat::l)=_;simp
theorem iD(l:List UInt8):(cn l).length=l.length:=by simp[cn]
variable{i:List UInt8}
theorem bu.str{v:V}(h:bu c 1 v (cn i) a):rD [v] c=some (.str i):=by
 cases d:v with
 |ak=>
  subst d;generalize e:cn i=g at h
  cases h;cases i with
  |nil=>rfl
  |cons k i=>cases e
 |slice b o n l=>
  subst d;have f:=h.dw n;generalize e:cn i=g at h f
  cases h with
  |cells p t r m w u q=>
   show av (c.dw b 0 n) (fun j=>av (bytesOf j) fun s=>some (V.str s))=some (V.str i);rw[f,jH aa,←e];show av (bytesOf (cn i)) _=_;rw[DK];rfl
 |_=>subst d;generalize cn i=g at h;cases h
theorem jR{H:ag}{bytes:Nat}{v:V}{new:List V}(q:bu H a v b g)(i:new.length=a)(t:0<a)(s:de new=true)(p:b.length+a≤1073741824∧bytes≤1024)
 (r:∀h c e,bu c a h (b++new) e→(g=0∧H.next<e∨g≠0∧e=g)→(∀y,y<H.next→(g=0∨y≠g)→c.get y=H.get y)→H.next<c.next→f (put o j h) c):gT j f o (ga a bytes [v,.slice H.next 0 1 (.known 1)] (H.push (.cells new 0))):=by
 refine Y1 (n:=1) (new:=new) (q.push _) rfl ?_ aj (by rw[i,fM]) t s (by rw[i];exact p) (Nat.succ_ne_zero _) ?_
 ·show(H.push (.cells new 0)).dw H.next 0 (1*a)=some new
  rw[gj (cs:=new) (by rw[ag.bE,ay rfl]),eY,fM,jH i]
 ·intro h c e k h2 l m;refine r h c e k ?_ (fun y u w=>?_) ?_
  ·rcases h2 with⟨h2,n⟩|h2
   ·exact .inl ⟨h2,by rw[n];show H.next<H.next+1+1;omega⟩
   ·exact .inr h2
  ·rw[l y (Nat.lt_succ_of_lt u) w,ag.bE,au aa]
  ·exact Nat.lt_of_succ_lt m
theorem Y2{bytes:Nat}{v:V}(k:bu c 1 v b a)(m:s.one=true)(i:b.length+1≤1073741824∧bytes≤1024)
 (l:∀h e g,bu e 1 h (b++[s]) g→(a=0∧c.next<g∨a≠0∧g=a)→(∀y,y<c.next→(a=0∨y≠a)→e.get y=c.get y)→c.next<e.next→f (put o j h) e):gT j f o (ga 1 bytes [v,.slice c.next 0 1 (.known 1)] (c.push (.cells [s] 0))):=
 jR k rfl aj (by show and s.one true=true;rw[m];rfl) i l
theorem aaD(h:c.gh z I=true):q4 false a g c z (.cells b I)=eu b g:=by
 show(match c.gh z I,false with|true,false=>_|true,true=>_|false,_=>_)=_;rw[h]
section
mutual
theorem gX.free{σ:Nat→Nat}{k:Nat}:∀ {v:V},bZ v→gX σ k v v
 |_,.bool b=>.bool b
 |_,.int k n=>.int k n
 |_,.str s=>.str s
 |_,.ie=>.ie
 |_,.ak=>.ak
 |_,.emp=>.emp
 |_,.jw=>.jw
 |_,.func f h1 h2=>.func f (jF.free h1) (jF.free h2)
 |_,.jU=>.jU
 |_,.jV=>.jV
 |_,.agg h=>.agg (jF.free h)
 |_,.aK h=>.aK (jF.free h)
 |_,.any=>.any _
 |_,.cell=>.cell rfl
 |_,.row n h=>.row n (jF.free h)
 |_,.dm j h=>.dm j (jF.free h)
 |_,.gu=>.gu
theorem jF.free{σ:Nat→Nat}{k:Nat}:∀ {l:List V},cM l→jF σ k l l
 |_,.nil=>.nil
 |_,.cons h h'=>.cons (gX.free h) (jF.free h')
end
def oM(G b:Nat)(y:Nat):Nat:=if y=G then b else y
section
variable {P:Program}{G:Nat}{φ:aO}{H:ag}{w:World}
def ag.one(G n:Nat)(a:List V):ag:=⟨((ag.zero G).push (.cells a 0)).m,n⟩
theorem ag.kQ{G:Nat}(y:Nat):(ag.one G a b).get y=if y=G then .cells b 0 else .none:=by
 show((ag.zero G).push (.cells b 0)).get y=_;rw[ag.bE,ag.gf];show(if G=y then _ else _)=_;by_cases e:y=G
 ·rw[ay e,ay e.symm]
 ·rw[au e,au (fun h=>e h.symm)]
variable{Q:Loc}
theorem rF(h:φ.view (oM G a) (G+1) g=some Q):(g=G∧φ a=some Q)∨(g<G∧φ g=some Q):=by
 obtain⟨c,b⟩:=aO.mw h;unfold oM at b;by_cases e:g=G
 ·rw[ay e]at b;exact .inl ⟨e,b⟩
 ·rw[au e]at b;exact .inr ⟨aa,b⟩
theorem Rel.one(m:Rel φ H w)(q:H.get a=.cells b 0)(K:cM b)(N:G≤a):Rel (φ.view (oM G a) (G+1)) (ag.one G (G+1) b) w:=by
 have z:∀ {y:Nat}{p:List V}{g:Nat},(ag.one G (G+1) b).get y=.cells p g→y=G∧p=b∧g=0:=by
  intro y p g e;rw[ag.kQ]at e;split at e
  ·rename_i h;cases e;exact⟨h,rfl,rfl⟩
  ·cases e
 have F:∀ {y C D:Nat},(ag.one G (G+1) b).get y≠ .b5 C D:=by
  intro y C D e;rw[ag.kQ]at e;split at e<;>cases e
 refine⟨?_,?_,?_,?_,?_,?_,?_,?_,?_,?_,?_⟩
 ·intro y l p g i v n d r E;obtain⟨rfl,rfl,rfl⟩:=z d;rcases rF n with⟨_,e⟩|⟨h,_⟩
  ·obtain⟨M,A,B⟩:=m.cell e q rfl E;exact⟨M,A,aS.free (φ:=φ) (ψ:=φ.view (oM y a) (y+1)) (fun _ _ e=>e) (cM.iff.1 K _ (er E)) B⟩
  ·omega
 ·intro y l i e h;rcases rF e with⟨_,e⟩|⟨_,e⟩
  ·exact m.room e h
  ·exact m.room e h
 ·intro y l p g n d;obtain⟨rfl,rfl,rfl⟩:=z d;rcases rF n with⟨_,e⟩|⟨h,_⟩
  ·exact m.len e q
  ·omega
 ·intro y Q l P n d r O;rcases rF n with⟨A,s⟩|⟨A,s⟩<;>rcases rF d with⟨B,t⟩|⟨B,t⟩
  ·omega
  ·rcases m.inj s t r aa with⟨_,_,g,u,j,_⟩|⟨j,_⟩
   ·rw[q]at j;cases j;exact absurd rfl u
   ·rw[q]at j;cases j
  ·rcases m.inj t s r.symm aa with⟨_,_,g,u,j,_⟩|⟨j,_⟩
   ·rw[q]at j;cases j;exact absurd rfl u
   ·rw[q]at j;cases j
  ·exact .inr ⟨by rw[ag.kQ,au aa],by rw[ag.kQ,au aa]⟩
 ·intro y I;have I:G+1≤y:=I;exact⟨au aa,by rw[ag.kQ,au aa]⟩
 ·intro y l e;rcases rF e with⟨_,e⟩|⟨_,e⟩
  ·exact m.loc e
  ·exact m.loc e
 ·intro y p g L J n d r;exact absurd r F
 ·intro g L J e;exact absurd e F
 ·intro y l o n d;rw[ag.kQ]at d;split at d<;>cases d
 ·intro c x e;refine(m.fj e).keep rfl ?_;intro y l n d;rcases rF n with⟨_,f⟩|⟨k,_⟩
  ·have:=(m.fj e).off _ _ f d;rw[q]at this;cases this
  ·rw[ag.kQ,au aa]
 ·intro y p g e;obtain⟨_,_,rfl⟩:=z e;exact nh _
variable{A:FuncId}
theorem afz{args2:List V}{U:List V}{R:V→List V→Prop}(E:H.get a=.cells U 0)(bi:cM U)(be:G≤a)(hm:∃o,V.ptr a o∈b)(ha:jF (oM G a) (G+1) b args2)
 (X:e6 P G (.fn A) args2 (ag.one G (G+1) U) fun v1 z=>∃v iQ,z.get G=.cells iQ 0∧cM iQ∧cr z (ag.one G z.next iQ) v1 v∧bZ v∧R v iQ):
 e6 P G (.fn A) b H fun v z=>∃iQ,R v iQ∧z=H.set a (.cells iQ 0):=by
 refine⟨X.1,fun φ w a' p hg a4=>(X.2 (φ.view (oM G a) (G+1)) w a' (p.one E bi be) ?_ (bC.view ha a4)).mono ?_⟩
 ·intro g b2;obtain⟨ci,e⟩:=hg g b2;refine⟨ci,aO.rG aa ?_⟩;show φ (if g=G then a else g)=_;rw[au aa];exact e
 ·rintro e w' ⟨v1,v',z,ψ,rfl,u,cd,v,iQ,a7,bj,bs,bo,hR⟩;obtain⟨J,B⟩:∃l,φ a=some l:=by
   obtain⟨o,hm⟩:=hm;obtain⟨i,Q⟩:=List.getElem?_of_mem hm;obtain⟨x,_,hx⟩:=a4.get i _ Q;cases hx with
   |ptr h=>exact⟨_,h⟩
  have c':a<H.next:=rQ fun h=>by
   have:=(p.top h).1;rw[B]at this;cases this
  have cb:φ.view (oM G a) (G+1) G=some J:=aO.rG aa (by show φ (if G=G then a else G)=_;rw[ay rfl];exact B);have b1:∀y,y<G→z.get y=.none:=by
   intro y m;have C:(ag.one G (G+1) U).get y=.none:=by rw[ag.kQ,au aa]
   cases d:φ.view (oM G a) (G+1) y with
   |some l=>exact(u.iU d C).1
   |none=>
    rw[u.mQ (aa:y<G+1) d (fun a3 a j=>by rw[C]at j;cases j)];exact C
  have al:Cut (G+1) z (ag.one G z.next iQ):=by
   refine⟨fun y=>?_,rfl,fun y y' c1 c2 g C s D K=>?_⟩
   ·rw[ag.kQ];by_cases m:y=G
    ·rw[ay m,m,a7];exact .inl rfl
    ·rw[au m];by_cases ar:y<G
     ·exact .inl (b1 y ar).symm
     ·exact .inr ⟨aa,rfl⟩
   ·rw[ag.kQ];split
    ·rename_i e;subst e;rw[a7]at D;cases D;exact absurd rfl C
    ·rfl
  have ab:=u.rel.cut al;have Y:=(u.wX (aR (G+1))).trans (u.rel.vR al u.next)
  have a8:=aS.dr u.rel al bs cd;generalize ψ.dr z (ag.one G z.next iQ) w'=F at ab Y a8
  have a0:F G=some J:=Y.le (lU G) cb;have hz:(ag.one G z.next iQ).get G=.cells iQ 0:=by rw[ag.kQ,ay rfl]
  have Z:∀ {n:Nat},n<w.heap.size→J.c≠n→w'.heap[n]? =w.heap[n]? :=by
   intro n X S;by_cases E:∃b' l,φ.view (oM G a) (G+1) b'=some l∧l.c=n
   ·obtain⟨b',l,d,rfl⟩:=E;rcases rF d with⟨_,A⟩|⟨k,_⟩
    ·rw[B]at A;cases A;exact absurd rfl S
    ·exact(u.iU d (by rw[ag.kQ,au aa])).2
   ·exact u.kR X (fun a l d j=>E ⟨a,l,d,j⟩)
  have O:∀ {y:Nat}{l:Loc},y≠a→φ y=some l→J.c≠l.c:=by
   intro y l m e h;rcases p.inj B e h (fun e=>m e.symm)with⟨_,_,g,C,s,_⟩|⟨s,_⟩
   ·rw[E]at s;cases s;exact absurd rfl C
   ·rw[E]at s;cases s
  have a5:∀n x,F.im n=some x→φ.im n=some x∨w.heap.size≤n∨J.c=n:=by
   intro n x e;rcases Y.l6 n x e with h|h|⟨b',l,s,D,K⟩
   ·exact .inl h
   ·exact .inr (.inl h)
   ·rcases rF s with⟨_,A⟩|⟨k,_⟩
    ·rw[B]at A;cases A;exact .inr (.inr D)
    ·exact absurd (by rw[ag.kQ,au aa]) K
  have am:φ.le ⟨φ.f,F.im⟩:=⟨fun _ _ e=>e,Y.wg⟩;have a6:∀ {x:V}{N:Value},bZ x→aS F x N→aS ⟨φ.f,F.im⟩ x N:=fun h r=>aS.free (φ:=F) (ψ:=⟨φ.f,F.im⟩) (fun _ _ e=>e) h r
  have t:∀ {y:Nat},y≠a→(H.set a (.cells iQ 0)).get y=H.get y:=fun h=>by rw[ag.a_,au (fun e=>h e.symm)]
  have I:(H.set a (.cells iQ 0)).get a=.cells iQ 0:=by rw[ag.a_,ay rfl]
  have ca:Rel ⟨φ.f,F.im⟩ (H.set a (.cells iQ 0)) w':=by
   refine⟨?_,fun d j=>u.same.free (p.room d j),?_,?_,?_,fun d=>ei (p.loc d) u.size,?_,?_,?_,?_,?_⟩
   ·intro y l ad g i x d j q ae;by_cases m:y=a
    ·subst m;rw[I]at j;cases j;have d:φ y=some l:=d;rw[B]at d;cases d;obtain⟨N,M,T⟩:=ab.cell a0 hz rfl ae;exact⟨N,M,a6 (cM.iff.1 bj _ (er ae)) T⟩
    ·rw[t m]at j;have hl:H.gh y g=true:=by
      rcases gi.1 q with e|⟨a3,n,W,ba⟩
      ·exact gi.2 (.inl e)
      ·refine gi.2 (.inr ⟨a3,n,?_,ba⟩);by_cases L:g=a
       ·rw[L,I]at W;cases W
       ·rw[t L]at W;exact W
     obtain⟨N,M,T⟩:=p.cell d j hl ae;refine⟨N,?_,T.mono am⟩;unfold World.cell? at M⊢;rw[Z (p.loc d) (O m d)];exact M
   ·intro y l ad g d j;by_cases m:y=a
    ·subst m;rw[I]at j;cases j;have d:φ y=some l:=d;rw[B]at d;cases d;exact ab.len a0 hz
    ·rw[t m]at j;exact p.len d j
   ·intro y y' l l' d j q S;have m:y≠a:=fun e=>by
     subst e;have d:φ y=some l:=d;rw[B]at d;cases d;exact O (fun h=>S h.symm) j q
    have ar:y'≠a:=fun e=>by
     subst e;have j:φ y'=some l':=j;rw[B]at j;cases j;exact O S d q.symm
    rw[t m,t ar];exact p.inj d j q S
   ·intro y m;have m:H.next≤y:=m
    obtain⟨s,D⟩:=p.top m;exact⟨s,by rw[t aa];exact D⟩
   ·intro y ad g ch bb d j q;have m:y≠a:=fun e=>by rw[e,I]at d;cases d;exact j rfl
    have L:g≠a:=fun e=>by rw[e,I]at q;cases q
    rw[t m]at d;rw[t L]at q;exact p.mem d j q
   ·intro g ch bb q;have L:g≠a:=fun e=>by rw[e,I]at q;cases q
    rw[t L]at q;exact p.lp q
   ·intro y l o d j;have m:y≠a:=fun e=>by rw[e,I]at j;cases j
    rw[t m]at j;obtain⟨M,T⟩:=p.cv d j;exact⟨M,T.mono am (Z (p.loc d) (O m d))⟩
   ·intro n x e;have Q:=ab.fj e;refine⟨Q.obj,Q.kind,fun y l d j=>?_⟩;have d:φ y=some l:=d;rcases a5 n x e with h|h|h
    ·have K:=(p.fj h).off y l d j;rw[t (fun e=>by rw[e,E]at K;cases K)];exact K
    ·have:=p.loc d;omega
    ·have:=Q.off G J a0 h;rw[hz]at this;cases this
   ·intro y ad g e;by_cases m:y=a
    ·rw[m,I]at e;cases e;show 0<H.next
     omega
    ·rw[t m]at e;exact p.lu e
  refine⟨v,v',H.set a (.cells iQ 0),⟨φ.f,F.im⟩,rfl,⟨ca,am,fun s D=>absurd (s.symm.trans D) aJ,?_,aR _,?_,u.size,u.same,?_,?_⟩,a6 bo a8,iQ,hR,rfl⟩
  ·intro y _ C _;exact t fun e=>by rw[e,B]at C;cases C
  ·intro n s D;exact Z s (D a J B)
  ·intro y l d j;have m:y≠a:=fun e=>by rw[e,E]at j;cases j
   exact⟨by rw[t m];exact j,Z (p.loc d) (O m d)⟩
  ·intro n x e;rcases a5 n x e with h|h|h
   ·exact .inl h
   ·exact .inr (.inl h)
   ·exact .inr (.inr ⟨a,J,B,h,by rw[E];simp⟩)
end
end
def IX(n:Nat)(H:ag):V→V→Bool:=
 Nat.rec (motive:=fun _=>V→V→Bool) (fun _ _=>false) (fun _ c v d=>match v,d with
  |.slice b o k _,.row f a=>and (bK k f) (match k,a with
    |0,[]=>true
    |0,_=>false
    |_,[]=>false
    |_,_=>(match H.dw b o (cP a)with
     |some e=>fE c e a
     |none=>false))
  |.ak,.row 0 []=>true
  |.emp,.row 0 []=>true
  |.gu,.row 0 []=>true
  |.agg x,.agg y=>fE c x y
  |.aK x,.aK y=>fE c x y
  |v,d=>qu 20 v d) n
theorem Bx{f:V→V→Bool}(g:∀v i,f v i=true→cr c J v i):∀ {l d:List V},fE f l d=true→dy c J l d
 |[],[],_=>.nil
 |[],_::_,h=>by cases h
 |_::_,[],h=>by cases h
 |a::l,b::d,h=>by
  have e:and (f a b) (fE f l d)=true:=h;rw[cz]at e;exact .cons (g a b e.1) (Bx g e.2)
theorem ah3:∀(n:Nat) (v f:V),IX n c v f=true→cr c (ag.zero a) v f:=by
 intro n;induction n with
 |zero=>intro v f h;cases h
 |succ n i=>
  intro v f h;have q:qu 20 v f=true→cr c (ag.zero a) v f:=fun h=>by rw[KP _ _ _ h];exact .same _
  unfold IX at h;simp only at h;split at h
  ·rename_i b o m r t k;rw[cz]at h;obtain⟨p,d⟩:=h;have e:=(beq_eq _ _).1 p;subst e;cases m with
   |zero=>
    cases k with
    |nil=>exact .e4 _ _ _
    |cons j l=>cases d
   |succ m=>
    cases k with
    |nil=>cases d
    |cons j l=>
     simp only at d;cases g:c.dw b o (cP (j::l))with
     |none=>rw[g]at d;cases d
     |some s=>
      rw[g]at d;exact .row g (nh _) (ag.gf _ _) (Bx i d)
  ·exact .fQ
  ·exact .Cn
  ·exact .Cm
  ·exact .agg (Bx i h)
  ·exact .aK (Bx i h)
  ·exact q h
def Bp(n:Nat):V→Bool:=
 Nat.rec (motive:=fun _=>V→Bool) (fun _=>false) (fun _ a v=>match v with
  |.bool _=>true
  |.int _ _=>true
  |.str _=>true
  |.ie=>true
  |.ak=>true
  |.agg x=>kS a x
  |.aK x=>kS a x
  |.row _ x=>kS a x
  |_=>false) n
theorem Bs{f:V→Bool}(a:∀v,f v=true→bZ v)(h:kS f b=true):cM b:=cM.iff.2 fun v c=>a v (sw.1 h v c)
theorem Zf:∀(n:Nat) (v:V),Bp n v=true→bZ v:=by
 intro n;induction n with
 |zero=>intro v h;cases h
 |succ n a=>
  intro v h;unfold Bp at h;cases v<;>first|(exact .bool _)|(exact .int _ _)|(exact .str _)|(exact .ie)|(exact .ak)|(exact .agg (Bs a h))|(exact .aK (Bs a h))|(exact .row _ (Bs a h))|(cases h)
def oa(G:Nat)(C:jl)(f:FuncId)(a:List V)(r:V):Bool:=
 match C (.fn f) a (ag.zero G)with
 |some (v,H)=>and (IX 20 H v r) (and (Bp 20 r) (kS (Bp 20) a))
 |none=>false
variable{A:FuncId}
theorem qk{P:Program}{C:jl}(i:nG P a C)(h:oa a C A b s=true):∀H,e6 P a (.fn A) b H fun v c=>v=s∧c=H:=by
 unfold oa at h;cases e:C (.fn A) b (ag.zero a)with
 |none=>rw[e]at h;cases h
 |some x=>
  obtain⟨v,c⟩:=x;rw[e]at h;simp only[cz]at h;obtain⟨d,f,g⟩:=h;have j:=Zf _ _ f;refine o6 (R:=fun v=>v=s) (Bs (Zf 20) g) ((i e).mono ?_);rintro l k ⟨rfl,rfl⟩;exact⟨s,ah3 _ _ _ d,j,rfl⟩
def ah.kT:ah→Bool
 |.seq a b=>a.kT&&b.kT
 |.cond _ a b=>a.kT&&b.kT
 |.block _ b=>b.kT
 |.loop b=>b.kT
 |.cut _ _ _=>false
 |_=>true
def ah.cutAt(B n:Nat):Nat→ah→ah
 |d+1,.seq a b=>.seq a (ah.cutAt B n d b)
 |0,c=>.cut B n c
 |_+1,c=>c
theorem uy:∀ {c:ah},c.kT=true→c.erase=c
 |.seq a b,h=>by
  have h:=(cz _ _).mp (show(a.kT&&b.kT)=true from h);show ah.seq _ _=_;rw[uy h.1,uy h.2]
 |.cond x a b,h=>by
  have h:=(cz _ _).mp (show(a.kT&&b.kT)=true from h);show ah.cond _ _ _=_;rw[uy h.1,uy h.2]
 |.block i b,h=>by
  show ah.block _ _=_;rw[uy (c:=b) h]
 |.loop b,h=>by
  show ah.loop _=_;rw[uy (c:=b) h]
 |.cut _ _ _,h=>by cases h
 |.skip,_=>rfl
 |.ret,_=>rfl
 |.exit _,_=>rfl
 |.aH _,_=>rfl
theorem uz{B:Nat}:∀ {c:ah},c.kT=true→c.nS B a
 |.seq d b,h=>by
  have h:=(cz _ _).mp (show(d.kT&&b.kT)=true from h);exact⟨uz h.1,uz h.2⟩
 |.cond x d b,h=>by
  have h:=(cz _ _).mp (show(d.kT&&b.kT)=true from h);exact⟨uz h.1,uz h.2⟩
 |.block i b,h=>uz (c:=b) h
 |.loop b,h=>uz (c:=b) h
 |.cut _ _ _,h=>by cases h
 |.skip,_=>trivial
 |.ret,_=>trivial
 |.exit _,_=>trivial
 |.aH _,_=>trivial
theorem YF{B:Nat}:∀ {d:Nat}{c:ah},(ah.cutAt B a d c).erase=c.erase
 |d+1,.seq e b=>by
  show ah.seq _ (ah.cutAt B a d b).erase=ah.seq _ _;rw[YF]
 |0,c=>by cases c<;>rfl
 |_+1,.cond _ _ _=>rfl
 |_+1,.block _ _=>rfl
 |_+1,.loop _=>rfl
 |_+1,.cut _ _ _=>rfl
 |_+1,.skip=>rfl
 |_+1,.ret=>rfl
 |_+1,.exit _=>rfl
 |_+1,.aH _=>rfl
theorem YG{B:Nat}(e:B≤g)(f:a≤z):∀ {d:Nat}{c:ah},c.nS B a→(ah.cutAt g z d c).nS B a
 |d+1,.seq i b,h=>⟨h.1,YG e f h.2⟩
 |0,c,h=>by cases c<;>exact⟨e,f,h⟩
 |_+1,.cond _ _ _,h=>h
 |_+1,.block _ _,h=>h
 |_+1,.loop _,h=>h
 |_+1,.cut _ _ _,h=>h
 |_+1,.skip,h=>h
 |_+1,.ret,h=>h
 |_+1,.exit _,h=>h
 |_+1,.aH _,h=>h
section
variable {P:Program}{G:Nat}{N:eF}{T:cE}
variable{K:V→ag→Prop}
theorem Ie(hT:c4 P T)(cA:jo P N)(fJ:P.follows .mixedOrders=true){a:Func}{f:List gV}(g:N.get aW A=some a)(i:vI G N T a=some (O,f))(e:O.kT=true)(d n:Nat)(k:b8 a.ntmps n=true)
 (j:b8 (cP b) a.ntmps=true) (h:iA P G (ah.cutAt c.next n d O) (gl f K) (l5 b 0 .nil) c):e6 P G (.fn A) b c K:=
 afw hT cA fJ g i (YF.trans (uy e)) j (YG (aR _) ((eN _ _).1 k) (uz e)) h
end
def BQ(H:ag):Nat→bM eg
 |0=>.nil
 |k+1=>(BQ H k).set .none k (H.get k)
def ag.low(H:ag)(k:Nat):ag:=⟨BQ H k,H.next⟩
theorem ag.oU(H:ag):∀(k y:Nat),(H.low k).get y=if y<k then H.get y else .none
 |0,y=>by
  rw[au (pN _)];exact bM.get_nil _ _
 |k+1,y=>by
  show((BQ H k).set .none k (H.get k)).get .none y=_;rw[bM.a_];by_cases e:k=y
  ·rw[ay e,ay aa,e]
  ·rw[au e];have:=ag.oU H k y;rw[show(BQ H k).get .none y=(H.low k).get y from rfl,this];by_cases h:y<k
   ·rw[ay h,ay aa]
   ·rw[au h,au aa]
theorem Im{B:Nat}(n:B≤a)(j:∀y e g,y<a→c.get y=.cells e g→g=0):Cut B c (c.low a):=by
 refine⟨fun y=>?_,rfl,fun y b k d g f l i m=>?_⟩
 ·rw[ag.oU];by_cases h:y<a
  ·rw[ay h];exact .inl rfl
  ·rw[au h];exact .inr ⟨aa,rfl⟩
 ·rw[ag.oU];by_cases h:b<a
  ·exact absurd (j b d g h i) f
  ·rw[au h]
theorem bu.ajz{v:V}(h:bu c a v b g)(d:g≠0):∃e f,c.get g=.b5 e f:=by
 cases h with
 |nil=>exact absurd rfl d
 |cells j i l d n m k=>exact⟨_,_,i⟩
theorem bu.r6{v:V}(h:bu c a v b g)(k:∀d f,c.get z≠ .b5 d f):g=0∨z≠g:=by
 by_cases i:g=0
 ·exact .inl i
 ·obtain⟨d,f,e⟩:=h.ajz i;exact .inr fun j=>k d f (j▸e)
theorem bu.I3{v:V}(h:bu c g v b I)(e:0<g)(k:∀y f I,y<a→c.get y=.cells f I→I=0)(n:b.length=z*g):cr c (c.low a) v (.row z b):=by
 obtain⟨m,d,j⟩:=h.dr (H2:=c.low a) e (fun y i o=>by
  rw[ag.oU,au];intro l;exact i (k y b I l o)) (dy.refl _)
 have:m=z:=Nat.eq_of_mul_eq_mul_right e (j.trans n);rw[this]at d;exact d
end Go.aE
namespace Go.Proofs.YtddhncjmaahodaaGreatDoor
open Go.aE
def s8:eF:=ZD eW
def xm:cE:=ac9 eW
theorem fJ:eW.follows .mixedOrders=true:=by kernel_rfl
theorem hT:c4 eW xm:=aru _
theorem cA:jo eW s8:=ahY _
def aZ(a:Func)(f:Nat)(c:ah)(l:List gV):Prop:=s8.get aW f=some a∧vI 5 s8 xm a=some (c,l)
variable{a:Nat}{O:ah}
theorem bh{c:Func}{l:List gV}(d:s8.get aW a=some c:=by kernel_rfl)(b:vI 5 s8 xm c=some (O,l):=by kernel_rfl):aZ c a O l:=⟨d,b⟩
abbrev ai(z:Int):V:=.int .i64 z
abbrev az(z:Int):V:=.int .u64 z
abbrev aq:V:=.bool false
abbrev cC:V:=.bool true
abbrev dN(f:FuncId)(a:List V)(H:ag)(Q:V→ag→Prop):Prop:=e6 eW 5 (.fn f) a H Q
abbrev bT(c:ah)(R:X→Fr→ag→Prop)(F:Fr)(H:ag):Prop:=iA eW 5 c R F H
variable{b:List V}{c:ag}{K:V→ag→Prop}
theorem bg{d:Func}{l:List gV}(k:aZ d a O l)(h:iA eW 5 O (gl l K) (l5 b 0 .nil) c)(e:b8 (cP b) d.ntmps=true:=by rfl):e6 eW 5 (.fn a) b c K:=nR hT cA fJ k.1 k.2 e h
def bA(f:Nat)(b:List V)(r:V):Prop:=∀H,dN f b H fun v a=>v=r∧a=H
variable{s:V}
theorem cT(c:cM b)(d:bZ s)(h:dN a b (ag.zero 5) fun v _=>v=s):bA a b s:=
 o6 (R:=fun v=>v=s) c (e6.mono (Q:=fun v _=>v=s) (fun v _ e=>⟨v,.same v,by rw[e];exact d,e⟩) h)
def XM:ah:=an [b7 1 0,ex 2 (alloc [aq,.ak])] (aB [aA 3 0 1,aC 4 3,fL 5 4,aA 6 1 1,aC 7 6,bf 8 86 5 7,aF 2 2 8])
theorem amm:aZ Tryz.f82 82 XM [.cell 2 true 2]:=bh
def XO:ah:=.seq (an [af 13 6,aY 14 13,bH 15 .gtr 14 0] (bl 15 .skip (.exit 0))) (.block 1 (an [af 17 5,af 18 6,bf 19 146 17 18,af 16 19,bn 20 0 16,bn 21 1 16,ao 7 20,ao 8 21] (.aH [af 22 6,af 23 8,ao 5 22,ao 6 23])))
def XN:ah:=an [b7 2 0,b7 3 1,ex 4 (alloc [aq,.ak])] (an [aA 9 1 2,aC 10 9,aA 11 1 3,aC 12 11,ao 5 10,ey 12 11,ao 6 12] (.seq (.block 0 (.loop XO)) (aB [af 24 5,ex 25 (bF 86 [(kc aq),(rd 24)]),aF 2 4 25])))
theorem amn:aZ Tryz.f83 83 XN [.cell 4 true 2]:=bh
def XP:ah:=.seq (an [af 22 4,bR 23 .gtr 22 .u32 0] (bl 23 .skip (.exit 0))) (.seq (.block 1 (.aH [af 26 3,b9 27 26 1,ao 3 27])) (.aH [af 24 4,bR 25 .shr 24 .u64 1,ao 4 25]))
def HW:ah:=an [b7 1 0,bI 2 0] (bm [aA 5 1 1,aC 6 5,aY 7 6,bH 8 .eql 7 0] 8 (aB [bI 2 0]) (an [aA 9 1 1,aC 10 9,aY 11 10,cL 12 11 1,ex 13 (bi .mul (kc (ai 32)) (rd 12)),ao 3 13] (.seq (an [aA 14 1 1,aC 15 14,aA 16 1 1,aC 17 16,aY 18 17,cL 19 18 1,aX 20 1 15 19,aC 21 20,ao 4 21] (.block 0 (.loop XP))) (aB [af 28 3,ao 2 28]))))
theorem amo:aZ Tryz.f84 84 HW [.tmp 2]:=bh
def XQ:ah:=an [b7 2 0,b7 3 1,ex 4 (alloc [aq,.ak]),ex 5 (alloc [aq,.ak])] (an [aA 9 1 2,aC 10 9,aA 11 1 3,aC 12 11,bf 13 146 10 12,af 8 13,bn 14 0 8,bn 15 1 8,ao 6 14,ao 7 15] (aB [aA 16 0 2,aC 17 16,aA 18 0 3,aC 19 18,ex 20 (be true .bool (rd 17) (rd 19)),af 21 6,aA 23 0 2,aC 24 23,af 25 7,bf 22 86 20 21,ey 24 23,bf 26 86 24 25,aF 2 4 22,aF 2 5 26]))
theorem amq:aZ Tryz.f85 85 XQ [.cell 4 true 2,.cell 5 true 2]:=bh
def A1:ah:=an [ex 4 (alloc [aq,.ak])] (aB [af 5 0,af 6 5,bG 6 true 7 1,aN 6 true 8 (fF (rd 7)),ef 6 true 9 .gtr 8 0,dM 10 6 9,af 11 1,ex 12 (cD [(0,1),(1,1)] [aq,.ak] [(rd 10),(rd 11)]),aF 2 4 12])
theorem aat:aZ Tryz.f86 86 A1 [.cell 4 true 2]:=bh
def HY:ah:=.seq (an [af 3 0,aY 4 3,bH 5 .gtr 4 0,af 6 5,bG 6 true 7 0,bG 6 true 8 0,aN 6 true 9 (fF (rd 8)),ef 6 true 10 .sub 9 1,aN 6 true 11 (dX none 1 (rd 7) (rd 10)),c9 6 true 12 11,aN 6 true 13 (bi .eql (rd 12) (kc (.int .u32 0))),dM 14 6 13] (bl 14 .skip (.exit 0))) (.block 1 (.aH [af 15 0,af 16 0,aY 17 16,cL 18 17 1,ex 19 (jk 1 false true false [(rd 15),(rd 18)]),ao 0 19]))
def HX:ah:=an [aP 2 .ak] (.seq (.block 0 (.loop HY)) (aB [af 20 0,ao 2 20]))
theorem aau:aZ Tryz.f87 87 HX [.tmp 2]:=bh
def A2:ah:=an [b7 2 0,b7 3 1,ex 4 (alloc [aq,.ak])] (bm [aA 5 0 2,aC 6 5,aA 7 0 3,aC 8 7,ex 9 (be false .bool (rd 6) (rd 8))] 9 (aB [aA 10 0 2,aC 11 10,aA 12 1 2,aC 13 12,aA 14 1 3,aC 15 14,bf 16 147 13 15,ey 11 10,bf 17 86 11 16,aF 2 4 17]) (bm [aA 18 1 2,aC 19 18,aA 20 1 3,aC 21 20,bf 22 148 19 21,bH 23 .geq 22 0] 23 (aB [aA 24 0 2,aC 25 24,aA 26 1 2,aC 27 26,aA 28 1 3,aC 29 28,bf 30 149 27 29,ey 25 24,bf 31 86 25 30,aF 2 4 31]) (aB [aA 32 0 3,aC 33 32,aA 34 1 3,aC 35 34,aA 36 1 2,aC 37 36,bf 38 149 35 37,ey 33 32,bf 39 86 33 38,aF 2 4 39])))
theorem amr:aZ Tryz.f88 88 A2 [.cell 4 true 2]:=bh
def XR:ah:=an [b7 2 0,b7 3 1,ex 4 (alloc [aq,.ak])] (aB [aA 5 0 2,aC 6 5,aA 7 0 3,aC 8 7,ex 9 (be true .bool (rd 6) (rd 8)),aA 10 1 2,aC 11 10,aA 12 1 3,aC 13 12,bf 14 150 11 13,ey 6 5,ey 8 7,bf 15 86 9 14,aF 2 4 15])
theorem ams:aZ Tryz.f89 89 XR [.cell 4 true 2]:=bh
def H6:ah:=an [b7 1 0,ex 2 (alloc [aq,.ak])] (bm [aA 3 2 1,aA 4 1 3,aC 5 4,aY 6 5,bH 7 .eql 6 0] 7 (aB [ex 8 (bF 36 [(kc (ai 1))]),aF 2 2 8]) (aB [aA 9 2 1,aL 10 2 9,aF 2 2 10]))
theorem amt:aZ Tryz.f90 90 H6 [.cell 2 true 2]:=bh
def XT:ah:=an [b7 1 0,bI 2 0] (aB [aA 3 0 1,aL 4 2 3,bk 5 96 4,ao 2 5])
theorem amu:aZ Tryz.f91 91 XT [.tmp 2]:=bh
def A4:ah:=an [b7 1 0,bI 2 0] (.seq (.block 0 (an [aA 4 0 1,aC 5 4,ao 3 5] (bl 3 (aB [ex 2 (fq (kc (ai (-1))))]) (an [aA 7 1 1,aC 8 7,aY 9 8,bH 10 .eql 9 0,ao 6 10] (bl 6 (aB [bI 2 0]) .skip))))) (aB [bI 2 1]))
theorem amw:aZ Tryz.f96 96 A4 [.tmp 2]:=bh
def Nt:ah:=.seq (an [af 15 8,bH 16 .geq 15 0] (bl 16 .skip (.exit 0))) (.seq (.block 1 (an [af 19 7,bR 20 .shl 19 .u64 32,af 21 0,af 22 8,aX 23 1 21 22,aC 24 23,c7 25 .u64 24,bD 26 .or 20 25,ao 7 26] (an [af 27 6,af 28 8,af 29 7,af 30 1,c7 31 .u64 30,bD 32 .quo 29 31,c7 33 .u32 32,aX 34 1 27 28,aF 1 34 33] (.aH [af 35 7,af 36 1,c7 37 .u64 36,bD 38 .rem 35 37,ao 7 38])))) (.aH [af 17 8,cL 18 17 1,ao 8 18]))
def Ns:ah:=an [aP 4 .ak,aP 5 (.int .u32 0)] (an [af 9 0,aY 10 9,ex 11 (ms 4 [(.int .u32 0)] (rd 10) (rd 10)),ao 6 11] (an [aP 7 (az 0)] (.seq (an [af 12 0,aY 13 12,cL 14 13 1,ao 8 14] (.block 0 (.loop Nt))) (aB [af 39 6,bk 40 87 39,af 41 7,c7 42 .u32 41,ao 4 40,ao 5 42]))))
theorem ako:aZ Tryz.f118 118 Ns [.tmp 4,.tmp 5]:=bh
def Eg:ah:=.seq (an [af 49 1,af 50 1,aY 51 50,cL 52 51 1,aX 53 1 49 52,aC 54 53,af 55 8,bD 56 .shl 54 55,bR 57 .lss 56 .u32 2147483648] (bl 57 .skip (.exit 0))) (.block 1 (.aH [af 58 8,bR 59 .add 58 .u64 1,ao 8 59]))
def Eh:ah:=.seq (an [af 115 16,bR 116 .geq 115 .u64 4294967296,af 117 116,bG 117 false 118 16,bG 117 false 119 9,bG 117 false 120 11,ef 117 false 121 .sub 120 2,aN 117 false 122 (dX none 1 (rd 119) (rd 121)),c9 117 false 123 122,aN 117 false 124 (j8 .u64 (rd 123)),aN 117 false 125 (bi .mul (rd 118) (rd 124)),bG 117 false 126 17,aN 117 false 127 (bi .shl (rd 126) (kc (az 32))),bG 117 false 128 10,bG 117 false 129 14,bG 117 false 130 11,aN 117 false 131 (bi .add (rd 129) (rd 130)),ef 117 false 132 .sub 131 2,aN 117 false 133 (dX none 1 (rd 128) (rd 132)),c9 117 false 134 133,aN 117 false 135 (j8 .u64 (rd 134)),aN 117 false 136 (bi .or (rd 127) (rd 135)),aN 117 false 137 (bi .gtr (rd 125) (rd 136)),en 138 117 137] (bl 138 .skip (.exit 4))) (.block 5 (an [af 139 16,bR 140 .sub 139 .u64 1,ao 16 140] (an [af 141 17,af 142 9,af 143 11,cL 144 143 1,aX 145 1 142 144,aC 146 145,c7 147 .u64 146,cU 148 141 147,ao 17 148] (an [af 149 17,bR 150 .geq 149 .u64 4294967296] (bl 150 (.exit 4) .skip)))))
def Ei:ah:=.seq (an [af 151 20,af 152 11,cw 153 151 152] (bl 153 .skip (.exit 6))) (.seq (.block 7 (an [af 156 16,af 157 9,af 158 20,aX 159 1 157 158,aC 160 159,c7 161 .u64 160,bD 162 .mul 156 161,af 163 18,cU 164 162 163,ao 21 164] (an [af 165 21,bR 166 .shr 165 .u64 32,ao 18 166] (an [af 167 10,af 168 20,af 169 14,cU 170 168 169,aX 171 1 167 170,aC 172 171,c7 173 .u64 172,af 174 21,bR 175 .and 174 .u64 4294967295,bD 176 .sub 173 175,af 177 19,bD 178 .sub 176 177,ao 22 178] (an [af 179 10,af 180 20,af 181 14,cU 182 180 181,af 183 22,c7 184 .u32 183,aX 185 1 179 182,aF 1 185 184] (.aH [af 186 22,bR 187 .shr 186 .u64 32,bR 188 .and 187 .u64 1,ao 19 188])))))) (.aH [af 154 20,b9 155 154 1,ao 20 155]))
def Ej:ah:=.seq (an [af 212 24,af 213 11,cw 214 212 213] (bl 214 .skip (.exit 8))) (.seq (.block 9 (an [af 217 18,af 218 10,af 219 24,af 220 14,cU 221 219 220,aX 222 1 218 221,aC 223 222,c7 224 .u64 223,af 225 9,af 226 24,aX 227 1 225 226,aC 228 227,c7 229 .u64 228,cU 230 224 229,cU 231 217 230,ao 18 231] (an [af 232 10,af 233 24,af 234 14,cU 235 233 234,af 236 18,c7 237 .u32 236,aX 238 1 232 235,aF 1 238 237] (.aH [af 239 18,bR 240 .shr 239 .u64 32,ao 18 240])))) (.aH [af 215 24,b9 216 215 1,ao 24 216]))
def Ek:ah:=.seq (an [af 78 14,bH 79 .geq 78 0] (bl 79 .skip (.exit 2))) (.seq (.block 3 (an [af 82 10,af 83 14,af 84 11,cU 85 83 84,aX 86 1 82 85,aC 87 86,c7 88 .u64 87,bR 89 .shl 88 .u64 32,af 90 10,af 91 14,af 92 11,cU 93 91 92,cL 94 93 1,aX 95 1 90 94,aC 96 95,c7 97 .u64 96,bD 98 .or 89 97,ao 15 98] (an [af 99 15,af 100 9,af 101 11,cL 102 101 1,aX 103 1 100 102,aC 104 103,c7 105 .u64 104,bD 106 .quo 99 105,ao 16 106] (an [af 107 15,af 108 9,af 109 11,cL 110 109 1,aX 111 1 108 110,aC 112 111,c7 113 .u64 112,bD 114 .rem 107 113,ao 17 114] (.seq (.block 4 (.loop Eh)) (an [aP 18 (az 0),aP 19 (az 0)] (.seq (an [bI 20 0] (.block 6 (.loop Ei))) (an [af 189 10,af 190 14,af 191 11,cU 192 190 191,aX 193 1 189 192,aC 194 193,c7 195 .u64 194,af 196 18,bD 197 .sub 195 196,af 198 19,bD 199 .sub 197 198,ao 23 199] (an [af 200 10,af 201 14,af 202 11,cU 203 201 202,af 204 23,c7 205 .u32 204,aX 206 1 200 203,aF 1 206 205] (bm [af 207 23,bR 208 .shr 207 .u64 63,bR 209 .eql 208 .u64 1] 209 (an [af 210 16,bR 211 .sub 210 .u64 1,ao 16 211] (an [aP 18 (az 0)] (.seq (an [bI 24 0] (.block 8 (.loop Ej))) (.aH [af 241 10,af 242 14,af 243 11,cU 244 242 243,aX 245 1 241 244,aC 246 245,af 247 18,c7 248 .u32 247,cU 249 246 248,aX 250 1 241 244,aF 1 250 249])))) (.aH [af 251 13,af 252 14,af 253 16,c7 254 .u32 253,aX 255 1 251 252,aF 1 255 254]))))))))))) (.aH [af 80 14,cL 81 80 1,ao 14 81]))
def El:ah:=.seq (an [af 260 26,af 261 25,aY 262 261,cw 263 260 262] (bl 263 .skip (.exit 10))) (.seq (.block 11 (an [af 266 25,af 267 26,af 268 25,af 269 26,aX 270 1 268 269,aC 271 270,af 272 8,bD 273 .shr 271 272,aX 274 1 266 267,aF 1 274 273] (an [af 275 26,b9 276 275 1,af 277 25,aY 278 277,cw 279 276 278] (bl 279 (.aH [af 280 25,af 281 26,aX 282 1 280 281,aC 283 282,af 284 25,af 285 26,b9 286 285 1,aX 287 1 284 286,aC 288 287,c7 289 .u64 288,af 290 8,ex 291 (bi .sub (kc (az 32)) (rd 290)),bD 292 .shl 289 291,c7 293 .u32 292,bD 294 .or 283 293,aX 295 1 280 281,aF 1 295 294]) .skip)))) (.aH [af 264 26,b9 265 264 1,ao 26 265]))
def NY:ah:=an [aP 4 .ak,aP 5 .ak] (bm [af 27 0,af 28 1,bf 29 148 27 28,bH 30 .lss 29 0] 30 (aB [ex 31 (cW 0 [] [(.int .u32 0)] []),af 32 0,eo 33 1 4 31 32,aP 4 .ak,ao 5 33]) (bm [af 34 1,aY 35 34,bH 36 .eql 35 1] 36 (an [af 38 0,af 39 1,ex 40 (dX none 1 (rd 39) (kc (ai 0))),aC 41 40,bf 42 118 38 41,af 37 42,bn 43 0 37,bn 44 1 37,ao 6 43,ao 7 44] (aB [af 45 6,af 46 7,ex 47 (cW 1 [(0,1)] [(.int .u32 0)] [(rd 46)]),bk 48 87 47,ao 4 45,ao 5 48])) (an [aP 8 (az 0)] (.seq (.block 0 (.loop Eg)) (an [af 60 1,af 61 8,bf 62 219 60 61,bk 63 87 62,ao 9 63] (an [af 64 0,af 65 8,bf 66 219 64 65,ao 10 66] (an [af 67 9,aY 68 67,ao 11 68] (an [af 69 10,aY 70 69,af 71 11,bD 72 .sub 70 71,cL 73 72 1,ao 12 73] (an [af 74 12,b9 75 74 1,ex 76 (ms 4 [(.int .u32 0)] (rd 75) (rd 75)),ao 13 76] (.seq (an [af 77 12,ao 14 77] (.block 2 (.loop Ek))) (an [af 256 10,af 257 11,ex 258 (jk 1 false true false [(rd 256),(rd 257)]),bk 259 87 258,ao 25 259] (.seq (an [bI 26 0] (.block 10 (.loop El))) (aB [af 296 13,bk 297 87 296,af 298 25,bk 299 87 298,ao 4 297,ao 5 299])))))))))))))
theorem aku:aZ Tryz.f146 146 NY [.tmp 4,.tmp 5]:=bh
def Em:ah:=.seq (an [af 19 7,af 20 0,aY 21 20,cw 22 19 21] (bl 22 .skip (.exit 0))) (.seq (.block 1 (an [af 25 6,af 26 0,af 27 7,aX 28 1 26 27,aC 29 28,c7 30 .u64 29,cU 31 25 30,ao 6 31] (bm [af 32 7,af 33 1,aY 34 33,cw 35 32 34] 35 (.aH [af 36 6,af 37 1,af 38 7,aX 39 1 37 38,aC 40 39,c7 41 .u64 40,cU 42 36 41,ao 6 42]) (an [af 43 5,af 44 7,af 45 6,c7 46 .u32 45,aX 47 1 43 44,aF 1 47 46] (.aH [af 48 6,bR 49 .shr 48 .u64 32,ao 6 49]))))) (.aH [af 23 7,b9 24 23 1,ao 7 24]))
def NZ:ah:=an [aP 4 .ak] (bm [af 8 0,aY 9 8,af 10 1,aY 11 10,cw 12 9 11] 12 (.aH [af 13 1,af 14 0,ao 0 13,ao 1 14]) (an [af 15 0,aY 16 15,b9 17 16 1,ex 18 (ms 4 [(.int .u32 0)] (rd 17) (rd 17)),ao 5 18] (an [aP 6 (az 0)] (.seq (an [bI 7 0] (.block 0 (.loop Em))) (an [af 50 5,af 51 0,aY 52 51,af 53 6,c7 54 .u32 53,aX 55 1 50 52,aF 1 55 54] (aB [af 56 5,bk 57 87 56,ao 4 57]))))))
theorem akv:aZ Tryz.f147 147 NZ [.tmp 4]:=bh
def N1:ah:=.seq (an [af 19 5,bH 20 .geq 19 0] (bl 20 .skip (.exit 0))) (.seq (.block 1 (an [af 23 0,af 24 5,aX 25 1 23 24,aC 26 25,af 27 1,af 28 5,aX 29 1 27 28,aC 30 29,bD 31 .neq 26 30] (bl 31 (bm [af 32 0,af 33 5,aX 34 1 32 33,aC 35 34,af 36 1,af 37 5,aX 38 1 36 37,aC 39 38,cw 40 35 39] 40 (aB [ex 4 (fq (kc (ai (-1))))]) (aB [bI 4 1])) .skip))) (.aH [af 21 5,cL 22 21 1,ao 5 22]))
def N0:ah:=an [bI 4 0] (bm [af 6 0,aY 7 6,af 8 1,aY 9 8,bD 10 .neq 7 9] 10 (bm [af 11 0,aY 12 11,af 13 1,aY 14 13,cw 15 12 14] 15 (aB [ex 4 (fq (kc (ai (-1))))]) (aB [bI 4 1])) (.seq (an [af 16 0,aY 17 16,cL 18 17 1,ao 5 18] (.block 0 (.loop N1))) (aB [bI 4 0])))
theorem akw:aZ Tryz.f148 148 N0 [.tmp 4]:=bh
def En:ah:=.seq (an [af 12 7,af 13 0,aY 14 13,cw 15 12 14] (bl 15 .skip (.exit 0))) (.seq (.block 1 (an [af 18 0,af 19 7,aX 20 1 18 19,aC 21 20,c7 22 .u64 21,af 23 6,bD 24 .sub 22 23,ao 8 24] (bm [af 25 7,af 26 1,aY 27 26,cw 28 25 27] 28 (.aH [af 29 8,af 30 1,af 31 7,aX 32 1 30 31,aC 33 32,c7 34 .u64 33,bD 35 .sub 29 34,ao 8 35]) (an [af 36 5,af 37 7,af 38 8,c7 39 .u32 38,aX 40 1 36 37,aF 1 40 39] (.aH [af 41 8,bR 42 .shr 41 .u64 32,bR 43 .and 42 .u64 1,ao 6 43]))))) (.aH [af 16 7,b9 17 16 1,ao 7 17]))
def N2:ah:=an [aP 4 .ak] (an [af 9 0,aY 10 9,ex 11 (ms 4 [(.int .u32 0)] (rd 10) (rd 10)),ao 5 11] (an [aP 6 (az 0)] (.seq (an [bI 7 0] (.block 0 (.loop En))) (aB [af 44 5,bk 45 87 44,ao 4 45]))))
theorem akx:aZ Tryz.f149 149 N2 [.tmp 4]:=bh
def Es:ah:=.seq (an [af 29 8,af 30 1,aY 31 30,cw 32 29 31] (bl 32 .skip (.exit 2))) (.seq (.block 3 (an [af 35 7,af 36 0,af 37 6,aX 38 1 36 37,aC 39 38,c7 40 .u64 39,af 41 1,af 42 8,aX 43 1 41 42,aC 44 43,c7 45 .u64 44,bD 46 .mul 40 45,af 47 5,af 48 6,af 49 8,cU 50 48 49,aX 51 1 47 50,aC 52 51,c7 53 .u64 52,cU 54 46 53,cU 55 35 54,ao 7 55] (an [af 56 5,af 57 6,af 58 8,cU 59 57 58,af 60 7,c7 61 .u32 60,aX 62 1 56 59,aF 1 62 61] (.aH [af 63 7,bR 64 .shr 63 .u64 32,ao 7 64])))) (.aH [af 33 8,b9 34 33 1,ao 8 34]))
def N9:ah:=.seq (an [af 23 6,af 24 0,aY 25 24,cw 26 23 25] (bl 26 .skip (.exit 0))) (.seq (.block 1 (an [aP 7 (az 0)] (.seq (an [bI 8 0] (.block 2 (.loop Es))) (.aH [af 65 5,af 66 6,af 67 1,aY 68 67,cU 69 66 68,af 70 7,c7 71 .u32 70,aX 72 1 65 69,aF 1 72 71])))) (.aH [af 27 6,b9 28 27 1,ao 6 28]))
def N8:ah:=an [aP 4 .ak] (bm [af 9 0,aY 10 9,bH 11 .eql 10 0,af 12 11,bG 12 false 13 1,aN 12 false 14 (fF (rd 13)),ef 12 false 15 .eql 14 0,en 16 12 15] 16 (aB [aP 4 .ak]) (an [af 17 0,aY 18 17,af 19 1,aY 20 19,cU 21 18 20,ex 22 (ms 4 [(.int .u32 0)] (rd 21) (rd 21)),ao 5 22] (.seq (an [bI 6 0] (.block 0 (.loop N9))) (aB [af 73 5,bk 74 87 73,ao 4 74]))))
theorem aky:aZ Tryz.f150 150 N8 [.tmp 4]:=bh
def QX:ah:=.seq (an [af 12 6,af 13 0,aY 14 13,cw 15 12 14] (bl 15 .skip (.exit 0))) (.seq (.block 1 (an [af 18 0,af 19 6,aX 20 1 18 19,aC 21 20,c7 22 .u64 21,af 23 1,bD 24 .shl 22 23,ao 7 24] (an [af 25 5,af 26 6,aX 27 1 25 26,aC 28 27,af 29 7,c7 30 .u32 29,bD 31 .or 28 30,aX 32 1 25 26,aF 1 32 31] (.aH [af 33 5,af 34 6,b9 35 34 1,af 36 7,bR 37 .shr 36 .u64 32,c7 38 .u32 37,aX 39 1 33 35,aF 1 39 38])))) (.aH [af 16 6,b9 17 16 1,ao 6 17]))
def QW:ah:=an [aP 4 .ak] (an [af 8 0,aY 9 8,b9 10 9 1,ex 11 (ms 4 [(.int .u32 0)] (rd 10) (rd 10)),ao 5 11] (.seq (an [bI 6 0] (.block 0 (.loop QX))) (aB [af 40 5,ao 4 40])))
theorem ak6:aZ Tryz.f219 219 QW [.tmp 4]:=bh
def G1:ah:=an [ex 2 (alloc [aq,.ak])] (an [af 4 0,c7 5 .u64 4,ao 3 5] (bm [af 6 0,bH 7 .lss 6 0] 7 (.aH [af 8 3,ex 9 (neg (rd 8)),ao 3 9]) (aB [af 10 0,bH 11 .lss 10 0,af 12 3,c7 13 .u32 12,af 14 3,bR 15 .shr 14 .u64 32,c7 16 .u32 15,ex 17 (cW 2 [(0,1),(1,1)] [(.int .u32 0)] [(rd 13),(rd 16)]),bk 18 87 17,bf 19 86 11 18,aF 2 2 19])))
theorem alV:aZ Tryz.f36 36 G1 [.cell 2 true 2]:=bh
end Go.Proofs.YtddhncjmaahodaaGreatDoor
namespace Go.aV
def val:List Nat→Nat
 |[]=>0
 |d::l=>d+4294967296*val l
def aM(l:List Nat):Prop:=∀d∈l,d<4294967296
def bM(l:List Nat):Prop:=l.getLast?≠some 0
variable{a:Nat}{d:List Nat}
theorem aM.cons(h:aM (a::d)):a<4294967296∧aM d:=⟨h a aJ,fun x b=>h x (by simp[b])⟩
theorem aM.mk(h:a<4294967296)(b:aM d):aM (a::d):=fun x hx=>by
 rcases gL.1 hx with rfl|hx
 ·exact h
 ·exact b x hx
theorem aM.nil:aM []:=fun _ h=>by cases h
theorem aM.take(h:aM d)(n:Nat):aM (d.take n):=fun x a=>h x (ve a)
theorem aM.drop(h:aM d)(n:Nat):aM (d.drop n):=fun x a=>h x (List.mem_of_mem_drop a)
theorem aM.app{m:List Nat}(h:aM d)(a:aM m):aM (d++m):=fun x hx=>by
 rcases gU.1 hx with hx|hx
 ·exact h x hx
 ·exact a x hx
theorem aM.getD(h:aM d)(i:Nat):d.getD i 0<4294967296:=by
 rw[c_];cases e:d[i]? with
 |none=>simp
 |some x=>exact h x (er e)
theorem gC:∀ {l:List Nat},aM l→val l<4294967296^l.length
 |[],_=>by simp[val]
 |d::l,h=>by
  have a:=gC h.cons.2;have b:=h.cons.1;simp only[val,di,c3];omega
theorem fl:∀(l m:List Nat),val (l++m)=val l+4294967296^l.length*val m
 |[],m=>by simp[val]
 |d::l,m=>by
  simp only[fm,val,di,c3,fl l m,bU];rw[b3 (4294967296^l.length) 4294967296,cg,jq]
theorem Ks(h:a<d.length):d=d.take a++d.getD a 0::d.drop (a+1):=by
 rw[c_,cH h];simp
theorem pB{l:List Nat}{i:Nat}(h:i<l.length):val l=val (l.take i)+4294967296^i*(l.getD i 0+4294967296*val (l.drop (i+1))):=by
 have e:=congrArg val (Ks h);rw[fl,gK (hD h)]at e;exact e
theorem yj{b:List Nat}(f:aM d)(c:a<d.length)(g:a<b.length)(h:d.drop (a+1)=b.drop (a+1))(j:d.getD a 0<b.getD a 0):val d<val b:=by
 rw[pB c,pB g,h];have e:=gC (f.take a);rw[gK (hD c)]at e;have i:4294967296^a*(d.getD a 0+4294967296*val (b.drop (a+1)))+4294967296^a≤4294967296^a*(b.getD a 0+4294967296*val (b.drop (a+1))):=by
  rw[←Nat.mul_succ];exact fc _ aa
 omega
theorem bM.pos(h:bM d)(b:d≠[]):4294967296^(d.length-1)≤val d:=by
 have f:0<d.length:=vb.2 b;have a:d.length-1<d.length:=aa;rw[pB a];have:d.getD (d.length-1) 0≠0:=by
  intro e;refine h ?_;rw[List.getLast?_eq_getElem?,cH a];rw[c_,cH a]at e;exact congrArg some e
 have c:4294967296^(d.length-1)*1≤4294967296^(d.length-1)*(d.getD (d.length-1) 0+4294967296*val (d.drop (d.length-1+1))):=fc _ aa;omega
theorem q9{b:List Nat}(a:aM d)(c:bM b)(h:d.length<b.length):val d<val b:=by
 have f:=gC a;have g:=c.pos (by intro e;rw[e]at h;exact absurd h (pN _));have i:4294967296^d.length≤4294967296^(b.length-1):=fN aa aa;omega
theorem val_inj:∀ {a b:List Nat},aM a→aM b→a.length=b.length→val a=val b→a=b
 |[],[],_,_,_,_=>rfl
 |x::a,y::b,c,d,g,h=>by
  have i:=c.cons.1;have j:=d.cons.1;simp only[val]at h;have e:x=y:=aa;have f:val a=val b:=aa;rw[e,val_inj c.cons.2 d.cons.2 (by simpa using g) f]
theorem canon{b:List Nat}(a:aM d)(c:aM b)(e:bM d)(f:bM b)(h:val d=val b):d=b:=by
 rcases Nat.lt_trichotomy d.length b.length with h1|h1|h1
 ·have:=q9 a f h1;omega
 ·exact val_inj a c h1 h
 ·have:=q9 c e h1;omega
def trim:List Nat→List Nat
 |[]=>[]
 |d::l=>if trim l=[]∧d=0 then []else d::trim l
theorem w4(l:List Nat):trim (l++[0])=trim l:=by
 induction l with
 |nil=>rfl
 |cons d l a=>simp only[fm,trim,a]
theorem wY(l:List Nat)(d:Nat)(h:d≠0):trim (l++[d])=l++[d]:=by
 induction l with
 |nil=>simp[trim,h]
 |cons e l a=>simp only[fm,trim,a];simp
theorem w8:∀l,val (trim l)=val l
 |[]=>rfl
 |d::l=>by
  have a:=w8 l;unfold trim;split
  ·rename_i h;rw[h.1]at a;simp only[val]at a⊢;omega
  ·simp only[val,a]
theorem wZ:∀ {l:List Nat},aM l→aM (trim l)
 |[],h=>h
 |d::l,h=>by
  unfold trim;split
  ·exact aM.nil
  ·exact .mk h.cons.1 (wZ h.cons.2)
theorem y4:∀l,bM (trim l)
 |[]=>by simp[trim,bM]
 |d::l=>by
  have a:=y4 l;unfold trim;split
  ·simp[bM]
  ·rename_i h;unfold bM at*;cases e:trim l with
   |nil=>
    rw[e]at h;simp at h;simpa using h
   |cons x m=>
    rw[e]at a;simpa using a
theorem ac2:∀l,(trim l).length≤l.length
 |[]=>aR _
 |d::l=>by
  have:=ac2 l;unfold trim;split
  ·simp
  ·simp;exact this
def aU(n:Nat):List Nat:=if h:n=0 then []else n%4294967296::aU (n/4294967296)
termination_by n
decreasing_by omega
theorem ir:aU 0=[]:=by unfold aU;simp
theorem nV(h:a≠0):aU a=a%4294967296::aU (a/4294967296):=by rw[aU];simp[h]
theorem fz(n:Nat):val (aU n)=n:=by
 induction n using jb with
 |ind n a=>
  by_cases h:n=0
  ·subst h;rw[ir];rfl
  ·rw[nV h];simp only[val,a (n/4294967296) aa];omega
theorem gy(n:Nat):aM (aU n):=by
 induction n using jb with
 |ind n a=>
  by_cases h:n=0
  ·subst h;rw[ir];exact aM.nil
  ·rw[nV h];exact .mk aa (a _ aa)
theorem oe(n:Nat):bM (aU n):=by
 induction n using jb with
 |ind n b=>
  by_cases h:n=0
  ·subst h;rw[ir];simp[bM]
  ·rw[nV h];have:=b (n/4294967296) aa;unfold bM at*;cases e:aU (n/4294967296)with
   |nil=>
    by_cases a:n/4294967296=0
    ·have:n%4294967296≠0:=aa;simpa using this
    ·rw[nV a]at e;cases e
   |cons x m=>
    rw[e]at this;simpa using this
theorem Bd(h:aM d)(t:bM d):aU (val d)=d:=canon (gy _) h (oe _) t (fz _)
theorem og(h:aM d):trim d=aU (val d):=by
 rw[←w8 d];exact(Bd (wZ h) (y4 d)).symm
variable{g:Nat}{z:Nat}
theorem tP(h:g<4294967296^z):(aU g).length≤z:=by
 by_cases e:aU g=[]
 ·rw[e];exact ck _
 ·have b:=(oe g).pos e;rw[fz]at b;have c:(aU g).length-1<z:=(Nat.pow_lt_pow_iff_right (a:=4294967296) aa).1 aa;omega
end Go.aV
namespace Go.Proofs.YtddhncjmaahodaaGreatDoor
open Go.aE Go.aV
def bJ(l:List Nat):List V:=l.map fun d:Nat=>V.int .u32 (d:Int)
def mag(l:List Nat):V:=.row l.length (bJ l)
theorem gY(l:List Nat):(bJ l).length=l.length:=by simp[bJ]
variable{d:List Nat}{a:Nat}
theorem gO(h:a<d.length):eu (bJ d) a=some (.int .u32 ((d.getD a 0:Nat):Int)):=by
 rw[iW];simp[bJ,h]
@[go_sem]theorem avd(l:List Nat):eC (mag l)=some (.val (ai (l.length:Int))):=rfl
@[go_sem]theorem auT(l:List Nat):bP (mag l)=true:=rfl
@[go_sem]theorem aug(l:List Nat):cellsOf (mag l)=[mag l]:=rfl
@[go_sem]theorem avJ(l:List Nat):V.one (mag l)=true:=rfl
variable{r:Int}{p:IntKind}
theorem iT{l:List Nat}(h:0≤r∧r<l.length):dY none 1 [mag l,.int p r]=some (.val (.dm (bJ l) r.toNat)):=by
 rw[mag,lz h,dQ]
theorem aqm(a:0≤r∧r≤d.length):slice3 (jA 1) false true false [mag d,.int p r]=some (.val (mag (d.take r.toNat))):=by
 rw[mag,Cy (by rw[gY,dQ]) a];simp only[mag,bJ,ep,dQ,List.map_take];rw[(aa:min r.toNat d.length=r.toNat)]
theorem Zg(l:List Nat):cM (bJ l):=cM.iff.2 fun v h=>by
 simp only[bJ,nc]at h;obtain⟨d,_,rfl⟩:=h;exact .int _ _
theorem jt(l:List Nat):bZ (mag l):=.row _ (Zg l)
theorem qs(l:List Nat)(j:l.length<4294967296):bA 87 [mag l] (mag (trim l)):=by
 intro H;refine bg aau ?_;unfold HX;simp only[go_sem];refine bW (fun k F f=>∃m,rd 0 F=mag m∧trim m=trim l∧k=m.length∧m.length≤l.length∧f=H) l.length ⟨l,by simp only[go_sem],rfl,rfl,aR _,rfl⟩ ?_;rintro k F f ⟨m,b,c,rfl,o,rfl⟩;unfold HY;rcases List.eq_nil_or_concat m with rfl|⟨a,d,rfl⟩
 ·simp(disch:=omega)only[go_sem,b,lR,df];exact⟨by rw[←c];rfl,trivial⟩
 ·rw[List.concat_eq_append]at*;have e:(a++[d]).length=a.length+1:=aJ;have n:(bJ (a++[d])).length=a.length+1:=by rw[gY,e]
  have i:(((a.length+1:Nat):Int)-1).toNat=a.length:=aa;have h:(a++[d]).getD a.length 0=d:=aJ;by_cases g:d=0
  ·subst g;simp(disch:=omega)only[go_sem,b,e,dt,aQ,iT,i,gO,h,aqm];refine⟨a.length,aa,a,?_,(w4 a).symm.trans c,rfl,aa,rfl⟩;simp only[go_sem];simp[]
  ·simp(disch:=omega)only[go_sem,b,e,dt,df,aQ,iT,i,gO,h];rw[←c,wY _ _ g];exact⟨rfl,trivial⟩
theorem ani(s:Bool)(n:Nat)(a:List V)(b:cM a):bA 86 [.bool s,.row n a] (.agg [.bool (s&&decide (0<n)),.row n a]):=by
 refine o6 (R:=fun v=>v=_) (.cons (.bool _) (.cons (.row _ b) .nil)) (e6.mono (Q:=fun v _=>v=.agg [.bool (s&&decide (0<n)),.row n a]) (fun v c h=>⟨v,.same v,by rw[h];exact .agg (.cons (.bool _) (.cons (.row _ b) .nil)),h⟩) ?_);refine bg aat ?_;unfold A1;cases s
 ·simp only[go_sem,Nat.reduceAdd,Bool.false_and]
 ·simp only[go_sem,Nat.reduceAdd,Bool.true_and];by_cases h:0<n
  ·simp(disch:=omega)only[dt]
  ·simp(disch:=omega)only[df]
def mI(a b:Nat):Int:=if a<b then-1 else if a=b then 0 else 1
theorem Yv(a b:List Nat)(r:aM a)(s:aM b)(v:bM a)(w:bM b)(y:a.length<4294967296)(z:b.length<4294967296):bA 148 [mag a,mag b] (ai (mI (val a) (val b))):=by
 intro H;refine bg akw ?_;unfold N0;rcases Nat.lt_trichotomy a.length b.length with h|h|h
 ·have c:=q9 r w h;simp(disch:=omega)only[go_sem,Nat.reduceAdd,dt,df];simp[mI,c]
 ·simp(disch:=omega)only[go_sem,Nat.reduceAdd,dt,aQ];refine bW (fun k F q=>∃j:Nat,rd 0 F=mag a∧rd 1 F=mag b∧rd 5 F=ai ((j:Int)-1)∧k=j∧j≤a.length∧a.drop j=b.drop j∧q=H) a.length ⟨a.length,?_,?_,?_,rfl,aR _,?_,rfl⟩ ?_
  iterate 3 simp only[go_sem]
  ·rw[i_ (aR _),i_ aa]
  rintro j F q ⟨_,d,e,f,rfl,x,g,rfl⟩;unfold N1;cases j with
  |zero=>
   have t:a=b:=by simpa using g
   simp(disch:=omega)only[go_sem,f,dt];rw[t];simp[mI]
  |succ i=>
   have p:(((i+1:Nat):Int)-1).toNat=i:=aa;have l:i<a.length:=aa;have m:i<b.length:=aa;rcases Nat.lt_trichotomy (a.getD i 0) (b.getD i 0)with u|heq|hgt
   ·have c:=yj r l m g u;simp(disch:=omega)only[go_sem,d,e,f,dt,df,iT,p,gO];simp[mI,c]
   ·simp(disch:=omega)only[go_sem,d,e,f,dt,df,iT,p,gO,aQ];refine⟨i,aa,i,?_,?_,?_,rfl,aa,?_,rfl⟩
    iterate 2 simp only[go_sem,d,e]
    ·simp only[go_sem];congr 1;omega
    ·rw[kr l,kr m,g];congr 1;simpa [c_,l,m]using heq
   ·have c:=yj s m l g.symm hgt;simp(disch:=omega)only[go_sem,d,e,f,df,iT,p,gO];have n:¬val a<val b:=aa;have o:¬val a=val b:=aa;simp[mI,n,o]
 ·have c:=q9 s v h;simp(disch:=omega)only[go_sem,Nat.reduceAdd,df];have n:¬val a<val b:=aa;have o:¬val a=val b:=aa;simp[mI,n,o]
theorem ld(l:List Nat)(i v:Nat):(bJ l).set i (.int .u32 (v:Int))=bJ (l.set i v):=by simp[bJ,List.map_set]
theorem pe(n:Nat):ql (n:Int) (dO 32 (gq .u64))=((n/4294967296:Nat):Int):=rfl
theorem n5(n:Nat):(n:Int)%4294967296=((n%4294967296:Nat):Int):=aa
theorem acn(ds:List Nat)(k v:Nat):(ds++br (k+1) 0).set ds.length v=(ds++[v])++br k 0:=by
 simp[oA]
theorem om{l:List Nat}{i:Nat}(h:i<l.length):val (l.take (i+1))=val (l.take i)+4294967296^i*l.getD i 0:=by
 rw[jZ h,fl,gK (hD h),c_,cH h];simp[val]
theorem Lv(x y:List Nat)(U:aM x)(V:aM y)(Q:y.length≤x.length)(hs:x.length<4294967295)(b:Nat)(F:Fr)(H:ag)(R:X→Fr→ag→Prop)(c:Cap)
 (B:rd 0 F=mag x) (C:rd 1 F=mag y) (D:rd 5 F=.slice b 0 (x.length+1) c) (E:rd 6 F=az 0) (G:rd 7 F=ai 0) (M:H.get b=.cells (bJ (br (x.length+1) 0)) 0)
 (N:∀i n ds a,rd 0 i=mag x→rd 5 i=.slice b 0 (x.length+1) c→rd 6 i=az ((a:Nat):Int)→a≤1→ds.length=x.length→aM ds→val ds+4294967296^x.length*a=val x+val y→n.get b=.cells (bJ (ds++[0])) 0→n.next=H.next→R (.exit 0) i n):
 bT (.loop Em) R F H:=by
 refine bW (fun k d f=>∃ds a,rd 0 d=mag x∧rd 1 d=mag y∧rd 5 d=.slice b 0 (x.length+1) c∧rd 6 d=az ((a:Nat):Int)∧rd 7 d=ai ((ds.length:Nat):Int)∧a≤1∧k=x.length-ds.length∧ds.length≤x.length∧aM ds∧
  val ds+4294967296^ds.length*a=val (x.take ds.length)+val (y.take ds.length)∧f.get b=.cells (bJ (ds++br (x.length-ds.length+1) 0)) 0∧f.next=H.next) x.length ⟨[],0,B,C,D,E,G,aa,rfl,ck _,aM.nil,rfl,M,rfl⟩ ?_
 rintro k d f ⟨ds,a,g,j,h,o,p,O,rfl,Y,A,t,l,z⟩;unfold Em;by_cases v:ds.length<x.length
 ·obtain⟨m,S⟩:∃m,x.length-ds.length=m+1:=⟨x.length-ds.length-1,aa⟩;have ad:=U.getD ds.length;have ae:=V.getD ds.length;have w:((ds.length:Nat):Int).toNat=ds.length:=aa;skip;rw[S]at l⊢;have Z:(bJ (ds++br (m+1+1) 0)).length=ds.length+m+2:=by simp[gY];omega
  have u:∀(e:Fr) (s:Nat),s<4294967296*2→rd 0 e=mag x→rd 1 e=mag y→rd 5 e=.slice b 0 (x.length+1) c→rd 6 e=az ((s/4294967296:Nat):Int)→rd 7 e=ai (((ds.length:Nat):Int)+1)→
   4294967296^ds.length*s+val ds=val (x.take (ds.length+1))+val (y.take (ds.length+1))→
   nO (fun k d f=>∃ds a,rd 0 d=mag x∧rd 1 d=mag y∧rd 5 d=.slice b 0 (x.length+1) c∧rd 6 d=az ((a:Nat):Int)∧rd 7 d=ai ((ds.length:Nat):Int)∧a≤1∧k=x.length-ds.length∧ds.length≤x.length∧aM ds∧
    val ds+4294967296^ds.length*a=val (x.take ds.length)+val (y.take ds.length)∧f.get b=.cells (bJ (ds++br (x.length-ds.length+1) 0)) 0∧f.next=H.next) (m+1) e (f.set b (.cells (bJ ((ds++br (m+1+1) 0).set ds.length (s%4294967296))) 0)):=by
   intro e s ac I J K L bO T;refine⟨m,aa,ds++[s%4294967296],s/4294967296,I,J,K,L,?_,aa,?_,?_,A.app (.mk aa aM.nil),?_,?_,z⟩
   ·rw[bO];simp
   ·simp;omega
   ·simp;omega
   ·rw[fl];simp only[bt,gm,c3,val,fe,cO];rw[←T];have W:4294967296^ds.length*s=4294967296^ds.length*(s%4294967296)+4294967296^ds.length*4294967296*(s/4294967296):=by
     rw[cg,←bU,Nat.mod_add_div]
    omega
   ·rw[ag.a_,ay rfl,acn];have:x.length-(ds++[s%4294967296]).length+1=m+1:=by simp;omega
    rw[this]
  by_cases P:ds.length<y.length
  ·have r:((a:Nat):Int)+((x.getD ds.length 0:Nat):Int)+((y.getD ds.length 0:Nat):Int)=((a+x.getD ds.length 0+y.getD ds.length 0:Nat):Int):=aa;simp(disch:=omega)only[go_sem,g,j,h,o,p,dt,iT,cR,w,gO,cj,aQ,r,pe,m4,n5,l,gk,ld];refine u _ (a+x.getD ds.length 0+y.getD ds.length 0) aa ?_ ?_ ?_ ?_ ?_ ?_
   iterate 5 simp only[go_sem,g,j,h]
   ·rw[om v,om P,bU,bU];omega
  ·have r:((a:Nat):Int)+((x.getD ds.length 0:Nat):Int)=((a+x.getD ds.length 0:Nat):Int):=aa;simp(disch:=omega)only[go_sem,g,j,h,o,p,dt,df,iT,cR,w,gO,cj,aQ,r,pe,m4,n5,l,gk,ld];refine u _ (a+x.getD ds.length 0) aa ?_ ?_ ?_ ?_ ?_ ?_
   iterate 5 simp only[go_sem,g,j,h]
   ·rw[cq (aa:y.length≤ds.length)]at t;rw[om v,cq (aa:y.length≤ds.length+1),bU];omega
 ·have q:ds.length=x.length:=aa;simp(disch:=omega)only[go_sem,g,p,df];refine N _ _ ds a ?_ ?_ ?_ O q A ?_ ?_ z
  iterate 3 simp only[go_sem,g,h,o]
  ·rw[q,cq (aR _),cq Q]at t;exact t
  ·rw[l,q];simp
theorem uI(n:Nat):rep [V.int .u32 0] n=bJ (br n 0):=by
 induction n with
 |zero=>rfl
 |succ n a=>
  show ez [V.int .u32 0] (rep [V.int .u32 0] n)=_;rw[iV,a];simp[bJ,oA]
variable{c:ag}{J:ag}{g:Nat}
theorem p4{b:Cap}{l:List Nat}(h:c.get a=.cells (bJ l) 0)(e:J.get a=.none)(f:l.length=g):cr c J (.slice a 0 g b) (mag l):=by
 subst f;cases l with
 |nil=>exact .e4 a 0 b
 |cons d l=>
  refine .row (m:=(d::l).length) (cs:=bJ (d::l)) ?_ (nh _) e (dy.refl _);rw[gj h,eY,eR,ay (by rw[gY];exact aR _),cq (by rw[gY];exact aR _)]
theorem Ls(a b:List Nat)(o:aM a)(p:aM b)(u:a.length<4294967295)(w:b.length<4294967295):bA 147 [mag a,mag b] (mag (aU (val a+val b))):=by
 refine o6 (R:=fun v=>v=_) (.cons (jt _) (.cons (jt _) .nil)) (e6.mono (Q:=fun v _=>v=mag (aU (val a+val b))) (fun v y h=>⟨v,.same v,by rw[h];exact jt _,h⟩) ?_);refine bg akv ?_;unfold NZ
 have r:∀(x:List Nat) (F:Fr) (H:ag) (ds:List Nat) (c gr:Nat),x.length<4294967295→c≤1→ds.length=x.length→aM ds→val ds+4294967296^x.length*c=val a+val b→H.get gr=.cells (bJ (ds++[0])) 0→rd 0 F=mag x→rd 5 F=.slice gr 0 (x.length+1) (.known (x.length+1))→rd 6 F=az ((c:Nat):Int)→
  bT (.seq (.aH [ex 50 (mv (rd 5)),ex 51 (mv (rd 0)),ex 52 (fF (rd 51)),ex 53 (mv (rd 6)),ex 54 (j8 .u32 (rd 53)),ex 55 (dX none 1 (rd 50) (rd 52)),eP (st 1 (rd 55) (rd 54))])
   (.seq (.aH [ex 56 (mv (rd 5)),ex 57 (bF 87 [(rd 56)]),ex 4 (fq (rd 57))]) .ret)) (gl [.tmp 4] fun v _=>v=mag (aU (val a+val b))) F H:=by
  intro x F H ds c gr A k d j l i e f g;have z:(bJ (ds++[0])).length=x.length+1:=by rw[gY];simp[d]
  have t:(ds++[0]).set x.length c=ds++[c]:=by rw[←d];simp
  simp(disch:=omega)only[go_sem,e,f,g,gd,cR,i,gk,ld,t];have s:(ds++[c]).length=x.length+1:=by simp[d]
  have q:(H.set gr (.cells (bJ (ds++[c])) 0)).get gr=.cells (bJ (ds++[c])) 0:=by rw[ag.a_,ay rfl]
  refine iL (qs (ds++[c]) aa) q ⟨0,_,_,dH.2 rfl⟩ (.cons (p4 q (by rw[ag.a_,ay rfl]) s) .nil) ?_;simp only[go_sem];rw[og (j.app (.mk aa aM.nil)),fl,d,←l];simp[val]
 by_cases h:a.length<b.length
 ·simp(disch:=omega)only[go_sem,dt,aQ,iH,uI];refine Lv b a p o (hD h) aa 5 _ _ _ (.known (b.length+1)) ?_ ?_ ?_ ?_ ?_ ?_ ?_
  iterate 6 simp only[go_sem]
  ·intro m n ds c e f g k d j l i _;rw[fu];exact r b m n ds c 5 w k d j aa i e f g
 ·simp(disch:=omega)only[go_sem,df,aQ,iH,uI];refine Lv a b o p aa aa 5 _ _ _ (.known (a.length+1)) ?_ ?_ ?_ ?_ ?_ ?_ ?_
  iterate 6 simp only[go_sem]
  ·intro m n ds c e f g k d j l i _;rw[fu];exact r a m n ds c 5 u k d j l i e f g
theorem xB:mH (ob .u64) (dK .u64) a=(a:Int):=rfl
theorem sN(h:a<18446744073709551616):gA (dK .u64) (a:Int)=a:=jr h
theorem Ds(h:a<18446744073709551616):gM (gZ .and) [az (a:Int),az 1]=some (.val (az ((a%2:Nat):Int))):=by
 show some (bx.val (az (mH (ob .u64) (dK .u64) (Nat.land (gA (dK .u64) (a:Int)) (gA (dK .u64) 1)))))=_;rw[sN h,xB,show gA (dK .u64) 1=1 from rfl];exact congrArg (fun m:Nat=>some (bx.val (az (m:Int)))) (Nat.and_one_is_mod a)
theorem aqT(x y:List Nat)(Z:aM x)(hy:aM y)(T:y.length≤x.length)(hs:x.length<4294967295)(b:Nat)(F:Fr)(H:ag)(R:X→Fr→ag→Prop)(c:Cap)
 (A:rd 0 F=mag x) (B:rd 1 F=mag y) (C:rd 5 F=.slice b 0 x.length c) (D:rd 6 F=az 0) (E:rd 7 F=ai 0) (M:H.get b=.cells (bJ (br x.length 0)) 0)
 (N:∀r t ds a,rd 5 r=.slice b 0 x.length c→a≤1→ds.length=x.length→aM ds→val x+4294967296^x.length*a=val ds+val y→t.get b=.cells (bJ ds) 0→R (.exit 0) r t):
 bT (.loop En) R F H:=by
 refine bW (fun k d f=>∃ds a,rd 0 d=mag x∧rd 1 d=mag y∧rd 5 d=.slice b 0 x.length c∧rd 6 d=az ((a:Nat):Int)∧rd 7 d=ai ((ds.length:Nat):Int)∧a≤1∧k=x.length-ds.length∧ds.length≤x.length∧aM ds∧
  val (x.take ds.length)+4294967296^ds.length*a=val ds+val (y.take ds.length)∧f.get b=.cells (bJ (ds++br (x.length-ds.length) 0)) 0) x.length ⟨[],0,A,B,C,D,E,aa,rfl,ck _,aM.nil,rfl,M⟩ ?_
 rintro k d f ⟨ds,a,g,i,h,u,o,O,rfl,hd,z,w,j⟩;unfold En;by_cases Q:ds.length<x.length
 ·obtain⟨m,U⟩:∃m,x.length-ds.length=m+1:=⟨x.length-ds.length-1,aa⟩;have am:=Z.getD ds.length;have ac:=hy.getD ds.length;rw[U]at j⊢;have ae:(bJ (ds++br (m+1) 0)).length=ds.length+m+1:=by simp[gY];omega
  have v:∀(e:Fr) (s n:Nat),s<18446744073709551616→n<4294967296→(x.getD ds.length 0+4294967296*(s/4294967296%2)=s%4294967296+a+n)→rd 0 e=mag x→rd 1 e=mag y→rd 5 e=.slice b 0 x.length c→rd 6 e=az ((s/4294967296%2:Nat):Int)→rd 7 e=ai (((ds.length:Nat):Int)+1)→
   val (y.take (ds.length+1))=val (y.take ds.length)+4294967296^ds.length*n→
   nO (fun k d f=>∃ds a,rd 0 d=mag x∧rd 1 d=mag y∧rd 5 d=.slice b 0 x.length c∧rd 6 d=az ((a:Nat):Int)∧rd 7 d=ai ((ds.length:Nat):Int)∧a≤1∧k=x.length-ds.length∧ds.length≤x.length∧aM ds∧
    val (x.take ds.length)+4294967296^ds.length*a=val ds+val (y.take ds.length)∧f.get b=.cells (bJ (ds++br (x.length-ds.length) 0)) 0) (m+1) e (f.set b (.cells (bJ ((ds++br (m+1) 0).set ds.length (s%4294967296))) 0)):=by
   intro e s n l ap P G I J K bO Y;refine⟨m,aa,ds++[s%4294967296],s/4294967296%2,G,I,J,K,?_,aa,?_,?_,z.app (.mk aa aM.nil),?_,?_⟩
   ·rw[bO];simp
   ·simp;omega
   ·simp;omega
   ·rw[fl];simp only[bt,gm,c3,val,fe,cO];rw[Y,om Q];have L:=congrArg (4294967296^ds.length* ·) P;simp only[bU,←cg]at L;omega
   ·rw[ag.a_,ay rfl,acn];have:x.length-(ds++[s%4294967296]).length=m:=by simp;omega
    rw[this]
  by_cases S:ds.length<y.length
  ·obtain⟨s,W,l,q⟩:∃s:Nat,((((x.getD ds.length 0:Nat):Int)-(a:Int))%18446744073709551616-((y.getD ds.length 0:Nat):Int))%18446744073709551616=(s:Int)∧s<18446744073709551616∧x.getD ds.length 0+4294967296*(s/4294967296%2)=s%4294967296+a+y.getD ds.length 0:=by
    refine⟨((((x.getD ds.length 0:Nat):Int)-(a:Int)-((y.getD ds.length 0:Nat):Int))%18446744073709551616).toNat,?_,?_,?_⟩<;>omega
   simp(disch:=omega)only[go_sem,g,i,h,u,o,dt,iT,cR,gO,cj,gE,aQ,W,pe,m4,n5,Ds,j,gk,ld];refine v _ s (y.getD ds.length 0) l ac q ?_ ?_ ?_ ?_ ?_ (om S)
   iterate 5 simp only[go_sem,g,i,h]
  ·obtain⟨s,V,l,q⟩:∃s:Nat,(((x.getD ds.length 0:Nat):Int)-(a:Int))%18446744073709551616=(s:Int)∧s<18446744073709551616∧x.getD ds.length 0+4294967296*(s/4294967296%2)=s%4294967296+a+0:=by
    refine⟨((((x.getD ds.length 0:Nat):Int)-(a:Int))%18446744073709551616).toNat,?_,?_,?_⟩<;>omega
   simp(disch:=omega)only[go_sem,g,i,h,u,o,dt,df,iT,cR,gO,cj,gE,aQ,V,pe,m4,n5,Ds,j,gk,ld];refine v _ s 0 l aa q ?_ ?_ ?_ ?_ ?_ ?_
   iterate 5 simp only[go_sem,g,i,h]
   ·rw[cq (aa:y.length≤ds.length),cq (aa:y.length≤ds.length+1)];simp
 ·have p:ds.length=x.length:=aa;simp(disch:=omega)only[go_sem,g,o,df];refine N _ _ ds a ?_ O p z ?_ ?_
  ·simp only[go_sem,h]
  ·rw[p,cq (aR _),cq T]at w;exact w
  ·rw[j,p];simp
theorem acU(a b:List Nat)(k:aM a)(l:aM b)(m:b.length≤a.length)(t:val b≤val a)(n:a.length<4294967295):bA 149 [mag a,mag b] (mag (aU (val a-val b))):=by
 refine o6 (R:=fun v=>v=_) (.cons (jt _) (.cons (jt _) .nil)) (e6.mono (Q:=fun v _=>v=mag (aU (val a-val b))) (fun v q h=>⟨v,.same v,by rw[h];exact jt _,h⟩) ?_);refine bg akx ?_;unfold N2;simp(disch:=omega)only[go_sem,iH,uI];refine aqT a b k l m n 5 _ _ _ (.known a.length) ?_ ?_ ?_ ?_ ?_ ?_ ?_
 iterate 6 simp only[go_sem]
 ·intro o p ds c g r e f s d;simp only[go_sem,g];have j:=gC f;have i:c=0:=by
   rw[e]at j;rcases k4 0 c with h2|h2
   ·have:4294967296^a.length*1≤4294967296^a.length*c:=fc _ h2;omega
   ·omega
  subst i;refine iL (qs ds aa) d ⟨0,_,_,dH.2 rfl⟩ (.cons (p4 d (by rw[ag.a_,ay rfl]) e) .nil) ?_;simp only[go_sem];rw[og f];congr 2;omega
theorem yO:((2^dO 32 (gq .u64):Nat):Int)=4294967296:=rfl
theorem qp(a b:Nat):kq (a:Int) (b:Int)=((a/b:Nat):Int):=rfl
theorem wU(a b:Nat):lP (a:Int) (b:Int)=((a%b:Nat):Int):=rfl
theorem yA(h:a<4294967296∧g<4294967296):gM (gZ .or) [az ((a:Int)*4294967296),az (g:Int)]=some (.val (az ((a*4294967296+g:Nat):Int))):=by
 have e:((a:Int)*4294967296)=((a*4294967296:Nat):Int):=aa;rw[e];show some (bx.val (az (mH (ob .u64) (dK .u64) (Nat.lor (gA (dK .u64) ((a*4294967296:Nat):Int)) (gA (dK .u64) (g:Int))))))=_;rw[sN aa,sN aa,xB];refine congrArg (fun m:Nat=>some (bx.val (az (m:Int)))) ?_;have b:=Nat.shiftLeft_add_eq_or_of_lt (i:=32) (show g<2^32 from h.2) a;rw[Nat.shiftLeft_eq]at b;exact b.symm
theorem agP(h:a<d.length):val (d.drop a)=d.getD a 0+4294967296*val (d.drop (a+1)):=by
 rw[kr h,c_,cH h];rfl
theorem Km(i v:Nat)(a:List Nat):(br (i+1) 0++a).set i v=br i 0++v::a:=by
 rw[List.replicate_succ',eG,List.set_append_right _ _ aJ];simp
theorem acI(a:List Nat)(d:Nat)(z:aM a)(f:0<d∧d<4294967296)(L:a.length<4294967295):bA 118 [mag a,.int .u32 (d:Int)] (.aK [mag (aU (val a/d)),.int .u32 ((val a%d:Nat):Int)]):=by
 refine o6 (R:=fun v=>v=_) (.cons (jt _) (.cons (.int _ _) .nil)) (e6.mono (Q:=fun v _=>v=.aK [mag (aU (val a/d)),.int .u32 ((val a%d:Nat):Int)]) (fun v g h=>⟨v,.same v,by rw[h];exact .aK (.cons (jt _) (.cons (.int _ _) .nil)),h⟩) ?_);refine bg ako ?_;unfold Ns;simp(disch:=omega)only[go_sem,iH,uI,aQ];refine bW (fun k c g=>∃(j r:Nat) (b:List Nat),rd 0 c=mag a∧rd 1 c=.int .u32 (d:Int)∧rd 6 c=.slice 5 0 a.length (.known a.length)∧rd 7 c=az (r:Int)∧rd 8 c=ai ((j:Int)-1)∧k=j∧j≤a.length∧aM b∧b.length=a.length-j∧r<d∧val b*d+r=val (a.drop j)∧g.get 5=.cells (bJ (br j 0++b)) 0) a.length ⟨a.length,0,[],?_,?_,?_,?_,?_,rfl,aR _,aM.nil,aJ,f.1,by simp[val],?_⟩ ?_
 iterate 3 simp only[go_sem]
 ·simp only[go_sem];rfl
 ·simp only[go_sem]
 ·simp only[go_sem];simp
 rintro j c g ⟨_,r,b,p,s,l,t,u,rfl,G,y,H,n,o,e⟩;unfold Nt;cases j with
 |zero=>
  simp(disch:=omega)only[go_sem,l,u,dt];have C:b.length=a.length:=aa;rw[oB,eM]at e;refine iL (qs b aa) e ⟨0,_,_,dH.2 rfl⟩ (.cons (p4 e (by rw[ag.a_,ay rfl]) C) .nil) ?_;simp(disch:=omega)only[go_sem,t,gd];rw[List.drop_zero]at o;rw[og y,←o,b3 (val b) d,Nat.mul_add_mod,jr n,Nat.mul_add_div f.1,lT n,cO]
 |succ i=>
  have B:i<a.length:=aa;have K:=z.getD i;have A:(((i+1:Nat):Int)-1).toNat=i:=aa;have x:(r*4294967296+a.getD i 0)/d<4294967296:=by
   rw[pM f.1];have:(r+1)*4294967296≤d*4294967296:=dz _ n;rw[b3 d]at this;omega
  have w:=eK (r*4294967296+a.getD i 0) f.1;have m:=iN (r*4294967296+a.getD i 0) d;generalize D:(r*4294967296+a.getD i 0)/d=q at x m
  generalize E:(r*4294967296+a.getD i 0)%d=F at w m
  have I:(bJ (br (i+1) 0++b)).length=a.length:=by rw[gY];simp;omega
  have J:((d:Nat):Int)≠0:=aa;simp(disch:=omega)only[go_sem,p,s,l,t,u,df,iT,cR,A,gO,yO,cj,aQ,yA,iC,k_,qp,wU,D,E,gd,e,gk,ld,Km];refine⟨i,aa,i,F,q::b,?_,?_,?_,?_,?_,rfl,aa,.mk x y,by simp;omega,w,?_,?_⟩
  iterate 4 simp only[go_sem,p,s,l]
  ·simp only[go_sem];congr 1;omega
  ·rw[agP B,←o];simp only[val];rw[b3 d]at m;rw[cZ,cg,bU];omega
  ·rw[ag.a_,ay rfl]
theorem pC:∀ {l:List Nat}{p v:Nat},p<l.length→val (l.set p v)+4294967296^p*l.getD p 0=val l+4294967296^p*v
 |[],_,_,h=>absurd h (pN _)
 |d::l,0,v,_=>by simp[val];omega
 |d::l,p+1,v,h=>by
  have a:=pC (l:=l) (p:=p) (v:=v) (by simpa using h);have e:(d::l).getD (p+1) 0=l.getD p 0:=aJ;rw[e];simp only[List.set_cons_succ,val,c3];rw[rR,rR _ _ v];omega
theorem n7(h:aM d){p v:Nat}(b:v<4294967296):aM (d.set p v):=fun x a=>by
 rcases List.mem_or_eq_of_mem_set a with a|rfl
 ·exact h x a
 ·exact b
theorem getD_set_ne{v:Nat}(h:a≠g):(d.set a v).getD g 0=d.getD g 0:=by
 simp[c_,h]
theorem BX(b:a<4294967296)(c:g<4294967296):a*g≤18446744065119617025:=by
 have:=jO (aa:a≤4294967295) (aa:g≤4294967295);omega
theorem anE(a b:List Nat)(T:aM a)(U:aM b)(i n j:Nat)(hi:i<a.length)(hn:n=a.length+b.length)(hs:n<4294967295)(c:Cap)(F:Fr)(H:ag)(R:X→Fr→ag→Prop)(g:List Nat)
 (G:rd 0 F=mag a) (I:rd 1 F=mag b) (J:rd 5 F=.slice 5 0 n c) (K:rd 6 F=ai (i:Int)) (M:rd 7 F=az 0) (N:rd 8 F=ai 0) (O:H.get 5=.cells (bJ g) 0) (P:g.length=n) (aw:aM g) (al:val g=j) (ar:∀p,i+b.length≤p→g.getD p 0=0)
 (Q:∀f v L d,rd 0 f=mag a→rd 1 f=mag b→rd 5 f=.slice 5 0 n c→rd 6 f=ai (i:Int)→rd 7 f=az ((d:Nat):Int)→d<4294967296→L.length=n→aM L→(∀p,i+b.length≤p→L.getD p 0=0)→val L+4294967296^(i+b.length)*d=j+4294967296^i*(a.getD i 0*val b)→v.get 5=.cells (bJ L) 0→R (.exit 2) f v):
 bT (.loop Es) R F H:=by
 refine bW (fun m e w=>∃(k d:Nat) (L:List Nat),rd 0 e=mag a∧rd 1 e=mag b∧rd 5 e=.slice 5 0 n c∧rd 6 e=ai (i:Int)∧rd 7 e=az ((d:Nat):Int)∧rd 8 e=ai (k:Int)∧d<4294967296∧m=b.length-k∧k≤b.length∧L.length=n∧aM L∧(∀p,i+b.length≤p→L.getD p 0=0)∧
  val L+4294967296^(i+k)*d=j+4294967296^i*(a.getD i 0*val (b.take k))∧w.get 5=.cells (bJ L) 0) b.length ⟨0,0,g,G,I,J,K,M,N,aa,rfl,ck _,P,aw,ar,by simp[val,al],O⟩ ?_
 rintro m e w ⟨k,d,L,l,h,o,r,x,y,W,rfl,hk,t,u,E,D,z⟩;unfold Es;by_cases Z:k<b.length
 ·have am:=T.getD i;have ap:=U.getD k;have a6:=u.getD (i+k);have hp:=BX am ap;have a4:(bJ L).length=n:=by rw[gY,t]
  have Y:((i:Int)+(k:Int)).toNat=i+k:=aa;have C:=pC (l:=L) (p:=i+k) (v:=(d+(a.getD i 0*b.getD k 0+L.getD (i+k) 0))%4294967296) aa;have B:((a.getD i 0:Nat):Int)*((b.getD k 0:Nat):Int)=((a.getD i 0*b.getD k 0:Nat):Int):=by rw[e7]
  have V:val (b.take (k+1))=val (b.take k)+4294967296^k*b.getD k 0:=om Z;have A:4294967296^i*(a.getD i 0*(val (b.take k)+4294967296^k*b.getD k 0))=4294967296^i*(a.getD i 0*val (b.take k))+4294967296^(i+k)*(a.getD i 0*b.getD k 0):=by
   rw[bU,bU,fX,k5 (a.getD i 0),cg]
  generalize a.getD i 0*b.getD k 0=p at hp C B A
  have ae:(d:Int)+((p:Int)+((L.getD (i+k) 0:Nat):Int))=((d+(p+L.getD (i+k) 0):Nat):Int):=aa;simp(disch:=omega)only[go_sem,l,h,o,r,x,y,dt,iT,cR,Y,gO,cj,aQ,B,ae,pe,m4,n5,z,gk,ld];refine⟨b.length-(k+1),aa,k+1,(d+(p+L.getD (i+k) 0))/4294967296,L.set (i+k) ((d+(p+L.getD (i+k) 0))%4294967296),?_,?_,?_,?_,?_,?_,aa,rfl,aa,by rw[ku,t],n7 u aa,fun q hq=>by rw[getD_set_ne aa];exact E q hq,?_,?_⟩
  iterate 5 simp only[go_sem,l,h,o,r]
  ·simp only[go_sem];congr 1
  ·rw[V,A];generalize S:d+(p+L.getD (i+k) 0)=s at C
   have h3:4294967296^(i+k)*s=4294967296^(i+k)*(s%4294967296)+4294967296^(i+(k+1))*(s/4294967296):=by
    rw[show i+(k+1)=i+k+1 from rfl,c3,cg,←bU,Nat.mod_add_div]
   have h4:4294967296^(i+k)*s=4294967296^(i+k)*d+(4294967296^(i+k)*p+4294967296^(i+k)*L.getD (i+k) 0):=by rw[←S,bU,bU]
   omega
  ·rw[ag.a_,ay rfl]
 ·have ab:k=b.length:=aa;subst ab;simp(disch:=omega)only[go_sem,h,y,df];rw[cq (aR _)]at D;refine Q _ _ L d ?_ ?_ ?_ ?_ ?_ W t u E D z
  iterate 5 simp only[go_sem,l,h,o,r,x]
theorem abg(n:Nat):aM (br n 0):=fun x a=>by
 have:=List.eq_of_mem_replicate a;omega
theorem adg(n:Nat):val (br n 0)=0:=by
 induction n with
 |zero=>rfl
 |succ n a=>simp[oA,val,a]
theorem aaZ(a b:List Nat)(F:aM a)(G:aM b)(K:a.length+b.length<4294967295):bA 150 [mag a,mag b] (mag (aU (val a*val b))):=by
 refine o6 (R:=fun v=>v=_) (.cons (jt _) (.cons (jt _) .nil)) (e6.mono (Q:=fun v _=>v=mag (aU (val a*val b))∨(v=.ak∧aU (val a*val b)=[])) (fun v d h=>?_) ?_)
 ·rcases h with h|⟨h,D⟩
  ·exact⟨v,.same v,by rw[h];exact jt _,h⟩
  ·refine⟨mag [],by rw[h];exact .fQ,jt _,by rw[D]⟩
 refine bg aky ?_;unfold N8;by_cases P:a.length=0
 ·have y:a=[]:=nI P;simp(disch:=omega)only[go_sem,dt];refine .inr ⟨trivial,?_⟩;rw[y];simp[val,ir]
 by_cases Q:b.length=0
 ·have z:b=[]:=nI Q;simp(disch:=omega)only[go_sem,dt,df];refine .inr ⟨trivial,?_⟩;rw[z];simp[val,ir]
 have M:((a.length:Int)+(b.length:Int)).toNat=a.length+b.length:=aa;simp(disch:=omega)only[go_sem,df,aQ,iH,uI,M]
 refine bW (fun m c d=>∃(i:Nat) (L:List Nat),rd 0 c=mag a∧rd 1 c=mag b∧rd 5 c=.slice 5 0 (a.length+b.length) (.known (a.length+b.length))∧rd 6 c=ai (i:Int)∧m=a.length-i∧i≤a.length∧L.length=a.length+b.length∧aM L∧(∀p,i+b.length≤p→L.getD p 0=0)∧val L=val (a.take i)*val b∧d.get 5=.cells (bJ L) 0) a.length
  ⟨0,br (a.length+b.length) 0,?_,?_,?_,?_,rfl,ck _,aJ,abg _,?_,?_,?_⟩ ?_
 iterate 3 simp only[go_sem]
 ·simp only[go_sem];rfl
 ·intro p _;simp only[c_,List.getElem?_replicate];split<;>rfl
 ·rw[adg];simp[val]
 ·simp only[go_sem]
 rintro m c d ⟨i,L,f,A,l,g,rfl,U,r,x,O,u,j⟩;unfold N9;by_cases q:i<a.length
 ·simp(disch:=omega)only[go_sem,f,g,dt];refine anE a b F G i (a.length+b.length) (val (a.take i)*val b) q rfl K (.known (a.length+b.length)) _ _ _ L ?_ ?_ ?_ ?_ ?_ ?_ j r x u O ?_
  iterate 6 simp only[go_sem,f,A,l,g]
  intro S T e k B n o C bO H s R w N E;have V:(bJ e).length=a.length+b.length:=by rw[gY,s]
  have I:((i:Int)+(b.length:Int)).toNat=i+b.length:=aa;have t:=pC (l:=e) (p:=i+b.length) (v:=k) aa;rw[w _ (aR _),fe,cO]at t;simp(disch:=omega)only[go_sem,n,o,C,bO,cR,I,gd,aQ,E,gk,ld];refine⟨a.length-(i+1),aa,i+1,e.set (i+b.length) k,?_,?_,?_,?_,rfl,aa,by rw[ku,s],n7 R H,fun p W=>by rw[getD_set_ne aa];exact w p aa,?_,?_⟩
  iterate 3 simp only[go_sem,B,n,o]
  ·simp only[go_sem];congr 1
  ·rw[t,N,om q,cZ,cg]
  ·rw[ag.a_,ay rfl]
 ·have J:i=a.length:=aa;subst J;simp(disch:=omega)only[go_sem,f,l,g,df];refine iL (qs L aa) j ⟨0,_,_,dH.2 rfl⟩ (.cons (p4 j (by rw[ag.a_,ay rfl]) r) .nil) ?_;simp only[go_sem];rw[og x,u,cq (aR _)];exact .inl rfl
def dJ(z:Int):List V:=[.bool (decide (z<0)),mag (aU z.natAbs)]
def cB(z:Int):V:=.agg (dJ z)
theorem ahA(z:Int):cM (dJ z):=.cons (.bool _) (.cons (jt _) .nil)
theorem iR(z:Int):bZ (cB z):=.agg (ahA z)
def dI(n:Nat):Prop:=n<4294967296^1000000
theorem dI.len(h:dI a):(aU a).length≤1000000:=tP h
theorem qT(n:Nat):0<(aU n).length↔n≠0:=by
 constructor
 ·intro h e;rw[e,ir]at h;exact absurd h (Nat.lt_irrefl _)
 ·intro h;rw[nV h];exact nh _
theorem BM(h:a≤g):(aU a).length≤(aU g).length:=by
 by_cases e:aU g=[]
 ·have:=fz g;rw[e]at this;have b:a=0:=by simp[val]at this;omega
  rw[b,ir];exact ck _
 ·refine tP (eH h ?_);have:=gC (gy g);rwa[fz]at this
theorem o3(s:Bool)(n:Nat):bA 86 [.bool s,mag (aU n)] (cB (if s then-(n:Int)else n)):=by
 have h:=ani s (aU n).length (bJ (aU n)) (Zg _);have e:V.agg [.bool (s&&decide (0<(aU n).length)),.row (aU n).length (bJ (aU n))]=cB (if s then-(n:Int)else n):=by
  unfold cB dJ mag;have a:(if s then-(n:Int)else n).natAbs=n:=by cases s<;>simp
  have b:decide ((if s then-(n:Int)else n)<0)=(s&&decide (0<(aU n).length)):=by
   cases s
   ·simp
   ·rw[Bool.true_and];refine decide_eq_decide.2 ?_;rw[qT];simp;omega
  rw[a,b]
 rw[←e];exact h
theorem Jy(z:Int):bA 82 [cB z] (cB (-z)):=by
 refine cT (.cons (iR _) .nil) (iR _) (bg amm ?_);simp only[go_sem,XM,cB,dJ];refine use (o3 _ _) ?_;simp only[go_sem,cB,dJ];have:(if(!decide (z<0))=true then-((z.natAbs:Nat):Int)else(z.natAbs:Int))= -z:=by
  by_cases h:z<0
  ·simp[h];omega
  ·simp[h];omega
 rw[this]
theorem acC(z:Int):bA 96 [cB z] (ai (if z<0 then-1 else if z=0 then 0 else 1)):=by
 refine cT (.cons (iR _) .nil) (.int _ _) (bg amw ?_);have c:=qT z.natAbs;by_cases h:z<0
 ·simp(disch:=omega)only[go_sem,A4,cB,dJ,dt];simp[h]
 ·by_cases a:z=0
  ·subst a;have b:(aU (0:Int).natAbs).length=0:=by rw[show(0:Int).natAbs=0 from rfl,ir];rfl
   simp(disch:=omega)only[go_sem,A4,cB,dJ,dt,df,b];simp
  ·have d:0<(aU z.natAbs).length:=c.2 aa;simp(disch:=omega)only[go_sem,A4,cB,dJ,df];simp[h,a]
theorem Lr(x y:Int)(l:dI x.natAbs)(m:dI y.natAbs):bA 88 [cB x,cB y] (cB (x+y)):=by
 have q:=l.len;have r:=m.len;refine cT (.cons (iR _) (.cons (iR _) .nil)) (iR _) (bg amr ?_);have d:=Ls (aU x.natAbs) (aU y.natAbs) (gy _) (gy _) aa aa;have c:=Yv (aU x.natAbs) (aU y.natAbs) (gy _) (gy _) (oe _) (oe _) aa aa;rw[fz,fz]at d c;have j:y.natAbs≤x.natAbs→bA 149 [mag (aU x.natAbs),mag (aU y.natAbs)] (mag (aU (x.natAbs-y.natAbs))):=fun h=>by
  have:=acU (aU x.natAbs) (aU y.natAbs) (gy _) (gy _) (BM h) (by rw[fz,fz];exact h) aa;rwa[fz,fz]at this
 have k:x.natAbs≤y.natAbs→bA 149 [mag (aU y.natAbs),mag (aU x.natAbs)] (mag (aU (y.natAbs-x.natAbs))):=fun h=>by
  have:=acU (aU y.natAbs) (aU x.natAbs) (gy _) (gy _) (BM h) (by rw[fz,fz];exact h) aa;rwa[fz,fz]at this
 have n:∀s:Bool,decide (x<0)=s→decide (y<0)=s→(if s then-((x.natAbs+y.natAbs:Nat):Int)else((x.natAbs+y.natAbs:Nat):Int))=x+y:=by
  intro s a b;cases s
  ·simp at a b⊢;omega
  ·simp at a b⊢;omega
 by_cases h:decide (x<0)=decide (y<0)
 ·generalize g:decide (x<0)=s at h
  have e:=n s g h.symm;simp only[go_sem,A2,cB,dJ,g,←h,beq_self_eq_true];refine use d ?_;simp only[go_sem,true_and];refine use (o3 _ _) ?_;simp only[go_sem,cB,dJ];rw[e]
 ·have f:(decide (x<0)==decide (y<0))=false:=by simpa using h
  by_cases i:y.natAbs≤x.natAbs
  ·have o:¬mI x.natAbs y.natAbs<0:=by
    unfold mI;split
    ·omega
    ·split<;>omega
   simp(disch:=omega)only[go_sem,A2,cB,dJ,f];refine use c ?_;simp(disch:=assumption)only[go_sem,df];refine use (j i) ?_;simp only[go_sem,true_and];refine use (o3 _ _) ?_;simp only[go_sem,cB,dJ];have e:(if decide (x<0)=true then-((x.natAbs-y.natAbs:Nat):Int)else((x.natAbs-y.natAbs:Nat):Int))=x+y:=by
    by_cases a:x<0<;>by_cases b:y<0<;>simp[a,b]at h⊢ <;>omega
   rw[e]
  ·have p:mI x.natAbs y.natAbs<0:=by
    unfold mI;rw[ay aa];decide
   simp(disch:=omega)only[go_sem,A2,cB,dJ,f];refine use c ?_;simp(disch:=assumption)only[go_sem,dt];refine use (k aa) ?_;simp only[go_sem,true_and];refine use (o3 _ _) ?_;simp only[go_sem,cB,dJ];have e:(if decide (y<0)=true then-((y.natAbs-x.natAbs:Nat):Int)else((y.natAbs-x.natAbs:Nat):Int))=x+y:=by
    by_cases a:x<0<;>by_cases b:y<0<;>simp[a,b]at h⊢ <;>omega
   rw[e]
theorem wu(x y:Int)(d:dI x.natAbs)(f:dI y.natAbs):bA 89 [cB x,cB y] (cB (x*y)):=by
 have g:=d.len;have h:=f.len;refine cT (.cons (iR _) (.cons (iR _) .nil)) (iR _) (bg ams ?_);have a:=aaZ (aU x.natAbs) (aU y.natAbs) (gy _) (gy _) aa;rw[fz,fz]at a;simp only[go_sem,XR,cB,dJ];refine use a ?_;simp only[go_sem,true_and];refine use (o3 _ _) ?_;simp only[go_sem,cB,dJ];have e:(if(!(decide (x<0)==decide (y<0)))=true then-((x.natAbs*y.natAbs:Nat):Int)else((x.natAbs*y.natAbs:Nat):Int))=x*y:=by
  rw[e7];by_cases b:x<0<;>by_cases c:y<0<;>simp only[b,c,decide_true,decide_false,Mh,Mg,Mf,Me,JC,nf,↓reduceIte,kj]
  ·rw[(aa:((x.natAbs:Nat):Int)= -x),(aa:((y.natAbs:Nat):Int)= -y),Int.neg_mul_neg]
  ·rw[(aa:((x.natAbs:Nat):Int)= -x),(aa:((y.natAbs:Nat):Int)=y),Int.neg_mul,Int.neg_neg]
  ·rw[(aa:((x.natAbs:Nat):Int)=x),(aa:((y.natAbs:Nat):Int)= -y),Int.mul_neg,Int.neg_neg]
  ·rw[(aa:((x.natAbs:Nat):Int)=x),(aa:((y.natAbs:Nat):Int)=y)]
 rw[e]
theorem arj(h:a<18446744073709551616):trim [a%4294967296,a/4294967296%4294967296]=aU a:=by
 rw[og (.mk aa (.mk aa aM.nil))];congr 1;simp[val];omega
theorem sj(n:Int)(h: -9223372036854775808≤n∧n<9223372036854775808):bA 36 [ai n] (cB n):=by
 refine cT (.cons (.int _ _) .nil) (iR _) (bg alV ?_)
 have key:∀(s:Bool) (k:Nat) (F:Fr) (H:ag),k<18446744073709551616→(if s then-(k:Int)else k)=n→rd 11 F=.bool s→rd 2 F=.ptr 5 0→H.get 5=.cells [aq,.ak] 0→H.get 6=.cells (bJ [k%4294967296,k/4294967296%4294967296]) 0→
  ow eW 5 (some 18) (j3 eW 5 [ex 19 (bF 86 [(rd 11),(rd 18)]),eP (st 2 (rd 2) (rd 19))] (e_ (bT .ret (gl [.cell 2 true 2] fun v _=>v=cB n)) (gl [.cell 2 true 2] fun v _=>v=cB n) .norm)) F H (some (.fn 87,[.slice 6 0 2 (.known 2)])):=by
  intro s k F H f e b c d a;refine iL (args2:=[mag [k%4294967296,k/4294967296%4294967296]]) (qs _ aJ) a ⟨0,_,_,dH.2 rfl⟩ (.cons (p4 a (by rw[ag.a_,ay rfl]) rfl) .nil) ?_;rw[arj f];simp only[go_sem,b];refine use (o3 _ _) ?_;simp only[go_sem,cB,dJ,c,d];rw[e]
 by_cases i:n<0
 ·obtain⟨k,rfl⟩:∃k:Nat,n= -(k:Int):=⟨n.natAbs,aa⟩;have g:aG .u64 (-(aG .u64 (-(k:Int))))=(k:Int):=by rw[gE,gE];omega
  simp(disch:=omega)only[go_sem,G1,dt,g,m4,n5,pe];refine key true k _ _ aa rfl ?_ ?_ ?_ ?_
  all_goals simp only[go_sem]
  rfl
 ·obtain⟨k,rfl⟩:∃k:Nat,n=(k:Int):=⟨n.natAbs,aa⟩;simp(disch:=omega)only[go_sem,G1,df,cj,m4,n5,pe];refine key false k _ _ aa rfl ?_ ?_ ?_ ?_
  all_goals simp only[go_sem]
  rfl
def gr(t:Nat):Nat:=if h:t=0 then 0 else 1+gr (t/2)
termination_by t
decreasing_by omega
theorem xC:gr 0=0:=by rw[gr];simp
theorem tv(h:a≠0):gr a=1+gr (a/2):=by rw[gr];simp[h]
theorem aep{t:Nat}(k:Nat)(h:t<2^k):gr t≤k:=by
 induction k generalizing t with
 |zero=>have:t=0:=by simpa using h
        rw[this,xC];exact aR _
 |succ k a=>
  by_cases e:t=0
  ·rw[e,xC];exact ck _
  ·rw[tv e];have:=a (t:=t/2) (by rw[c3]at h;omega);omega
theorem Ml:gr a=1↔a=1:=by
 constructor
 ·intro h;by_cases e:a=0
  ·rw[e,xC]at h;cases h
  ·rw[tv e]at h;by_cases b:a/2=0
   ·omega
   ·rw[tv b]at h;omega
 ·intro h;rw[h,tv aa];rw[show 1/2=0 from rfl,xC]
def n6(n:Nat):Nat:=if n=0 then 0 else 32*((aU n).length-1)+gr ((aU n).getD ((aU n).length-1) 0)
theorem KF(h:a≠0):(aU a).getD ((aU a).length-1) 0≠0:=by
 have c:=(qT a).2 h;have b:(aU a).length-1<(aU a).length:=aa;intro e;refine oe a ?_;rw[List.getLast?_eq_getElem?,cH b];rw[c_,cH b]at e;exact congrArg some e
theorem aa6{n:Nat}:n6 n=1↔n=1:=by
 unfold n6;by_cases h:n=0
 ·simp[h]
 ·rw[au h];have g:=KF h;have d:=(qT n).2 h;constructor
  ·intro e;have i:gr ((aU n).getD ((aU n).length-1) 0)≠0:=by rw[tv g];omega
   have b:(aU n).length-1=0:=aa;rw[b]at e;have c:=Ml.1 (aa:gr ((aU n).getD 0 0)=1);have f:=fz n
   match a:aU n with
   |[]=>rw[a]at d;exact absurd d (Nat.lt_irrefl _)
   |[x]=>rw[a]at f c;simp[val]at f c;omega
   |_::_::_=>rw[a]at b;simp at b
  ·intro e;subst e;have a:aU 1=[1]:=by rw[nV aa];simp[ir]
   rw[a];simp[Ml.2 rfl]
theorem anP{n:Nat}:n6 n=0↔n=0:=by
 unfold n6;by_cases h:n=0
 ·simp[h]
 ·rw[au h];have a:gr ((aU n).getD ((aU n).length-1) 0)≠0:=by rw[tv (KF h)];omega
  omega
theorem ap'(n:Nat):ql (n:Int) (dO 1 (gq .u32))=((n/2:Nat):Int):=rfl
theorem Mj(z:Int)(p:dI z.natAbs):bA 84 [cB z] (ai (n6 z.natAbs:Int)):=by
 have r:=p.len;refine cT (.cons (iR _) .nil) (.int _ _) (bg amo ?_);by_cases a:z.natAbs=0
 ·have i:(aU z.natAbs).length=0:=by rw[a,ir];rfl
  simp(disch:=omega)only[go_sem,HW,cB,dJ,dt];rw[n6,ay a];rfl
 ·have i:=(qT z.natAbs).2 a;have l:(((aU z.natAbs).length:Int)-1).toNat=(aU z.natAbs).length-1:=aa;have o:=(gy z.natAbs).getD ((aU z.natAbs).length-1);have j:=aep 32 o;simp(disch:=omega)only[go_sem,HW,cB,dJ,df,aQ,iT,l,gO];have n:n6 z.natAbs=32*((aU z.natAbs).length-1)+gr ((aU z.natAbs).getD ((aU z.natAbs).length-1) 0):=by rw[n6,au a]
  refine bW (fun k b h=>∃t m:Nat,rd 4 b=.int .u32 (t:Int)∧rd 3 b=ai (m:Int)∧m+gr t=n6 z.natAbs∧gr t≤32∧k=t) ((aU z.natAbs).getD ((aU z.natAbs).length-1) 0) ⟨_,32*((aU z.natAbs).length-1),?_,?_,n.symm,j,rfl⟩ ?_
  ·simp only[go_sem]
  ·simp only[go_sem];congr 1;omega
  rintro t b h ⟨_,m,d,c,f,q,rfl⟩;unfold XP;have s:n6 z.natAbs≤32000032:=aa;by_cases g:t=0
  ·subst g;simp(disch:=omega)only[go_sem,c,d,df];rw[xC]at f;rw[←f];rfl
  ·have e:=tv g;simp(disch:=omega)only[go_sem,c,d,dt,aQ,ap'];refine⟨t/2,aa,t/2,m+1,?_,?_,aa,aa,rfl⟩
   ·simp only[go_sem]
   ·simp only[go_sem];congr 1
end Go.Proofs.YtddhncjmaahodaaGreatDoor
namespace Go.aV
section
variable {q top u2 kY v1 v2 mz W U V:Nat}
theorem yd(c:V=(v1*4294967296+v2)*W+mz)(b:U=(top*4294967296+u2)*W+kY)(g:kY<W)(f:q*V≤U):q*(v1*4294967296+v2)≤top*4294967296+u2:=by
 obtain⟨X,d⟩:∃X,X=v1*4294967296+v2:=⟨_,rfl⟩;obtain⟨T,hT⟩:∃T,T=top*4294967296+u2:=⟨_,rfl⟩;rw[←d]at c⊢;rw[←hT]at b⊢;have e:q*X*W≤q*V:=by
  rw[cg];exact fc _ aa
 have a:q*X*W<(T+1)*W:=by
  rw[cZ,fM];omega
 have:=rP a;omega
theorem BI(b:V=(v1*4294967296+v2)*W+mz)(a:U=(top*4294967296+u2)*W+kY)(d:kY<W)(f:u2<4294967296)(e:0<v1)(c:q*V≤U):q≤top/v1:=by
 have h:=yd b a d c;rw[bU,←cg]at h;rw[rO e];omega
theorem BJ{h r:Nat}(c:V=(v1*4294967296+v2)*W+mz)(b:U=(top*4294967296+u2)*W+kY)(f:kY<W)(d:q*V≤U)(e:top=h*v1+r)(j:r*4294967296+u2<h*v2):q<h:=by
 rcases k4 q h with h1|h1
 ·exact h1
 ·have g:=yd c b f d;have a:h*(v1*4294967296+v2)≤q*(v1*4294967296+v2):=dz _ h1;rw[bU,←cg]at a;have i:top*4294967296=h*v1*4294967296+r*4294967296:=by rw[e,cZ]
  omega
variable{a:Nat}{g:Nat}
theorem BK(e:V=(v1*4294967296+v2)*W+mz)(d:U=(top*4294967296+u2)*W+kY)(l:mz<W)(q:0<v1)(k:top=a*v1+g)(p:a<4294967296)(o:a*v2≤g*4294967296+u2):(a-1)*V≤U:=by
 cases a with
 |zero=>simp
 |succ b=>
  have m:top*4294967296=(b+1)*v1*4294967296+g*4294967296:=by rw[k,cZ]
  have c:(b+1)*(v1*4294967296+v2)≤top*4294967296+u2:=by
   rw[bU,←cg];omega
  have j:4294967296≤v1*4294967296+v2:=aa;obtain⟨X,h⟩:∃X,X=v1*4294967296+v2:=⟨_,rfl⟩;obtain⟨T,f⟩:∃T,T=top*4294967296+u2:=⟨_,rfl⟩;rw[←h]at e c j;rw[←f]at d c;have i:(b+1)*X*W≤T*W:=dz _ c;rw[cZ b 1 X,fM,cZ]at i;have n:b*mz≤X*W:=jO aa (hD l);show b*V≤U;rw[e,d,bU,←cg];omega
end
end Go.aV
namespace Go.Proofs.YtddhncjmaahodaaGreatDoor
open Go.aE Go.aV
variable{a:Nat}{g:Nat}
theorem kf(h:a≤g):dO a g=a:=by
 unfold dO;rw[jf h]
theorem abm{y:Nat}(h:a<4294967296∧y<4294967296):gM (gZ .or) [.int .u32 (a:Int),.int .u32 (y:Int)]=some (.val (.int .u32 ((a|||y:Nat):Int))):=by
 show some (bx.val (.int .u32 (mH (ob .u32) (dK .u32) (Nat.lor (gA (dK .u32) (a:Int)) (gA (dK .u32) (y:Int))))))=_;rw[show gA (dK .u32) (a:Int)=a from jr h.1,show gA (dK .u32) (y:Int)=y from jr h.2];rfl
theorem ari(h:a≤31):2^a≤2147483648:=fN (n:=2) aa h
theorem aok{x:Nat}(d:g≤31)(c:a<2^g):a|||(x*2^g)%4294967296=a+(x*2^g)%4294967296:=by
 have e:(4294967296:Nat)=2^(32-g)*2^g:=by rw[←fX,(aa:32-g+g=32)]
 have b:(x*2^g)%4294967296=(x%2^(32-g))<<<g:=by
  rw[e,qJ,Nat.shiftLeft_eq]
 rw[b,Nat.or_comm,←Nat.shiftLeft_add_eq_or_of_lt c,iy]
theorem acp(a:List Nat)(s:Nat)(G:aM a)(A:s≤31)(Z:a.length<4294967294)(H:ag):
 dN 219 [mag a,az (s:Int)] H fun v b=>v=.slice H.next 0 (a.length+1) (.known (a.length+1))∧b.next=H.next+1∧∃L,aM L∧L.length=a.length+1∧val L=val a*2^s∧L.getD a.length 0<2^s∧∀y,b.get y=if y=H.next then .cells (bJ L) 0 else H.get y:=by
 refine bg ak6 ?_;simp(disch:=omega)only[go_sem,QW,aQ,iH,uI];have R:=ari A;have q:0<2^s:=e8 aa
 refine bW (fun k c b=>∃(i:Nat) (L:List Nat),rd 0 c=mag a∧rd 1 c=az (s:Int)∧rd 5 c=.slice H.next 0 (a.length+1) (.known (a.length+1))∧rd 6 c=ai (i:Int)∧k=a.length-i∧i≤a.length∧aM L∧L.length=a.length+1∧val L=val (a.take i)*2^s∧L.getD i 0<2^s∧(∀p,i<p→L.getD p 0=0)∧b.next=H.next+1∧∀y,b.get y=if y=H.next then .cells (bJ L) 0 else H.get y) a.length
  ⟨0,br (a.length+1) 0,?_,?_,?_,?_,rfl,ck _,abg _,aJ,?_,?_,?_,rfl,?_⟩ ?_
 iterate 3 simp only[go_sem]
 ·simp only[go_sem];rfl
 ·rw[adg];simp[val]
 ·simpa using q
 ·intro p _;simp only[c_,List.getElem?_replicate];split<;>rfl
 ·intro y;rw[ag.bE];by_cases e:y=H.next
  ·rw[ay e.symm,ay e]
  ·rw[au (fun h=>e h.symm),au e]
 rintro k c b ⟨i,L,f,m,g,o,rfl,U,l,d,C,u,F,t,j⟩;have I:b.get H.next=.cells (bJ L) 0:=by rw[j,ay rfl]
 unfold QX;by_cases K:i<a.length
 ·have Q:=G.getD i;have V:(bJ L).length=a.length+1:=by rw[gY,d]
  have N:dO s (gq .u64)=s:=kf (aa:s≤64);have D:a.getD i 0*2^s<4294967296*2^s:=ng Q q;have z:((a.getD i 0:Nat):Int)*((2^s:Nat):Int)=((a.getD i 0*2^s:Nat):Int):=by rw[e7]
  have w:=aok (x:=a.getD i 0) A u;have x:L.getD i 0|||(a.getD i 0*2^s)%4294967296<4294967296:=Nat.or_lt_two_pow (n:=32) aa aa
  have r:a.getD i 0*2^s/4294967296<2^s:=s9 D;have P:=om K;have E:(val (a.take i)+4294967296^i*a.getD i 0)*2^s=val (a.take i)*2^s+4294967296^i*(a.getD i 0*2^s):=by rw[cZ,cg]
  generalize a.getD i 0*2^s=v at D z w x r E
  have O:=pC (l:=L) (p:=i) (v:=L.getD i 0|||v%4294967296) aa;have B:=pC (l:=L.set i (L.getD i 0|||v%4294967296)) (p:=i+1) (v:=v/4294967296) (by rw[ku];omega);rw[getD_set_ne aa,F _ (lU i),fe,cO]at B;have J:((i:Int)+1).toNat=i+1:=aa;have W:(bJ (L.set i (L.getD i 0|||v%4294967296))).length=a.length+1:=by rw[gY,ku,d]
  have X:=l.getD i;simp(disch:=omega)only[go_sem,f,m,g,o,dt,iT,cR,J,gO,N,z,cj,aQ,pe,m4,n5,abm,I,gk,ld];refine⟨a.length-(i+1),aa,i+1,(L.set i (L.getD i 0|||v%4294967296)).set (i+1) (v/4294967296),?_,?_,?_,?_,rfl,aa,n7 (n7 l x) aa,by rw[ku,ku,d],?_,?_,?_,t,?_⟩
  iterate 3 simp only[go_sem,f,m,g]
  ·simp only[go_sem];congr 1
  ·rw[P,E];have S:4294967296^i*(L.getD i 0+v%4294967296)=4294967296^i*L.getD i 0+4294967296^i*(v%4294967296):=bU _ _ _;have T:4294967296^i*v=4294967296^i*(v%4294967296)+4294967296^(i+1)*(v/4294967296):=by
    rw[c3,cg,←bU,Nat.mod_add_div]
   rw[w]at O B⊢;omega
  ·rw[c_,List.getElem?_set_self (by rw[ku];omega)];exact r
  ·intro p Y;rw[getD_set_ne aa,getD_set_ne aa];exact F p aa
  ·intro y;rw[ag.a_];by_cases e:y=H.next
   ·rw[ay e.symm,ay e,jr (a:=v/4294967296) aa]
   ·rw[au (fun h=>e h.symm),au e,ag.a_,au (fun h=>e h.symm),j,au e]
 ·have M:i=a.length:=aa;subst M;simp(disch:=omega)only[go_sem,f,g,o,df];rw[cq (aR _)]at C;exact⟨trivial,t,L,l,d,C,u,j⟩
variable{z:Nat}{I:Nat}{p:IntKind}{r:Int}
theorem sR(b:0≤r∧r≤z∧z≤I):slice3 (jA a) false true false [.slice g 0 z (.known I),.int p r]=some (.val (.slice g 0 r.toNat (.known I))):=by
 show pg g 0 z I a none (some (.int p r))=_;unfold pg;rw[qQ (l:=0) (h:=r.toNat) rfl (k8 p b.1) (ck _) aa];show some (bx.val (.slice g (Bool.casesOn (motive:=fun _=>Nat) (bK I 0) (fW 0 (dW 0 a)) 0) (iz r.toNat 0) (.known (iz I 0))))=_;have:(Bool.casesOn (motive:=fun _=>Nat) (bK I 0) (fW 0 (dW 0 a)) 0)=0:=by
  cases bK I 0
  ·show 0+0*a=0;omega
  ·rfl
 rw[this];rfl
theorem ac3:∀l:List Nat,trim l=l.take (trim l).length
 |[]=>rfl
 |d::l=>by
  have a:=ac3 l;unfold trim;split
  ·rfl
  ·simp only[di,List.take_succ_cons];rw[←a]
theorem arh(l f:List Nat)(b c:Nat)(p:l.length≤c)(q:l.length<4294967296)(H:ag)(g:H.get b=.cells (bJ (l++f)) 0):
 dN 87 [.slice b 0 l.length (.known c)] H fun v d=>v=.slice b 0 (trim l).length (.known c)∧d=H:=by
 refine bg aau ?_;unfold HX;simp only[go_sem];refine bW (fun k F d=>∃m,rd 0 F=.slice b 0 m (.known c)∧trim (l.take m)=trim l∧k=m∧m≤l.length∧d=H) l.length ⟨l.length,by simp only[go_sem],by rw[cq (aR _)],rfl,aR _,rfl⟩ ?_;rintro m F d ⟨_,e,a,rfl,s,rfl⟩;unfold HY;cases m with
 |zero=>
  simp(disch:=omega)only[go_sem,e,df];refine⟨?_,trivial⟩;rw[←a];rfl
 |succ i=>
  have n:(((i+1:Nat):Int)-1).toNat=i:=aa;have r:i<(l++f).length:=by simp;omega
  have j:(l++f).getD i 0=l.getD i 0:=by
   simp only[c_];rw[k3 aa]
  have o:l.take (i+1)=l.take i++[l.getD i 0]:=by
   rw[jZ aa,c_,cH aa];rfl
  rw[o]at a;by_cases h:l.getD i 0=0
  ·simp(disch:=omega)only[go_sem,e,dt,aQ,cR,n,g,gO,j,sR];refine⟨i,aa,i,?_,?_,rfl,aa,rfl⟩
   ·simp only[go_sem]
   ·rw[h,w4]at a;exact a
  ·simp(disch:=omega)only[go_sem,e,dt,df,aQ,cR,n,g,gO,j];rw[wY _ _ h]at a;rw[←a];simp;omega
variable{o:Fr}
theorem cc{v:V}(h:g≠a):rd a (put o (some g) v)=rd a o:=by rw[abS,au h]
theorem ahl(a L:List Nat)(n j ae z c:Nat)(am:aM a)(bc:aM L)(hn:a.length=n)(ca:2≤n)(hj:j+n<z)(a6:L.length=z)(b2:z<4294967295)(q s:Nat)(l G:Nat)(ci:2147483648≤a.getD (n-1) 0)
 (bb:∀h r,s=h*a.getD (n-1) 0+r→r*4294967296+L.getD (j+n-2) 0<h*a.getD (n-2) 0→q<h) (hq:q<4294967296) (ht:s≤a.getD (n-1) 0*4294967296+4294967295) (a4:s=l*a.getD (n-1) 0+G) (ce:G<a.getD (n-1) 0) (a':q≤l)
 (F:Fr) (H:ag) (R:X→Fr→ag→Prop) (a3:rd 9 F=mag a) (ar:rd 10 F=.slice ae 0 z (.known c)) (aw:rd 11 F=ai (n:Int)) (a0:rd 14 F=ai (j:Int)) (a1:rd 16 F=az (l:Int)) (a2:rd 17 F=az (G:Int)) (M:H.get ae=.cells (bJ L) 0)
 (N:∀I h r,(∀t,t<115→t≠16→t≠17→rd t I=rd t F)→rd 16 I=az ((h:Nat):Int)→h<4294967296→q≤h→s=h*a.getD (n-1) 0+r→h*a.getD (n-2) 0≤r*4294967296+L.getD (j+n-2) 0→R (.exit 4) I H):
 bT (.loop Eh) R F H:=by
 have bo:=am.getD (n-1);have al:=am.getD (n-2);have bs:=bc.getD (j+n-2);have b1:(bJ L).length=z:=by rw[gY,a6]
 have D:((n:Int)-1).toNat=n-1:=aa;have U:((n:Int)-2).toNat=n-2:=aa;have V:((j:Int)+(n:Int)-2).toNat=j+n-2:=aa;have be:l≤4294967297:=by
  have:l*a.getD (n-1) 0<(4294967297+1)*a.getD (n-1) 0:=by
   rw[b3 (4294967297+1),(aa:a.getD (n-1) 0*(4294967297+1)=a.getD (n-1) 0*4294967296+a.getD (n-1) 0*2)];omega
  have:=rP this;omega
 refine bW (fun k u H1=>∃h r,(∀t,t<115→t≠16→t≠17→rd t u=rd t F)∧rd 16 u=az ((h:Nat):Int)∧rd 17 u=az ((r:Nat):Int)∧s=h*a.getD (n-1) 0+r∧q≤h∧r<4294967296∧h≤l∧k=h∧H1=H) l ⟨l,G,fun _ _ _ _=>rfl,a1,a2,a4,a',aa,aR _,rfl,rfl⟩ ?_;rintro h u H1 ⟨_,r,i,o,x,T,a9,cf,bv,rfl,rfl⟩;have y:=(i 9 aa aa aa).trans a3;have J:=(i 10 aa aa aa).trans ar;have w:=(i 11 aa aa aa).trans aw;have K:=(i 14 aa aa aa).trans a0;unfold Eh;generalize C:a.getD (n-1) 0=f at*
 generalize P:a.getD (n-2) 0=m at*
 generalize Q:L.getD (j+n-2) 0=Z at*
 have v:1≤h→s=(h-1)*f+(r+f):=fun b=>by
  obtain⟨g,rfl⟩:∃g,h=g+1:=⟨h-1,aa⟩;rw[T,cZ,fM,pL];omega
 have ad:1≤h→4294967296≤r+f→h-1<4294967296∧(h-1)*m≤(r+f)*4294967296+Z:=fun b d=>by
  have e:=v b;have A:(h-1)*f<4294967296*f:=aa;have h5:=rP A;have h6:=BX h5 al;omega
 have E:∀ {h:Nat},1≤h→((h:Int)-1)=((h-1:Nat):Int):=fun b=>aa
 have bd:∀ {ab:Fr} (t:Nat),(∀t,t<115→t≠16→t≠17→rd t ab=rd t u)→t<115→t≠16→t≠17→rd t ab=rd t F:=fun t b d e A=>(b t d e A).trans (i t d e A)
 by_cases hB:4294967296≤h
 ·have a8:q<h:=aa;by_cases O:4294967296≤r+f
  ·obtain⟨W,Y⟩:=ad aa O;simp(disch:=omega)only[go_sem,y,w,o,x,df,cj,aQ,iT,D,gO,C];refine N _ (h-1) (r+f) (fun t b d e=>?_) ?_ W aa (v aa) Y
   ·simp(disch:=omega)only[cc];exact i t b d e
   ·simp only[go_sem];rw[E aa]
  ·simp(disch:=omega)only[go_sem,y,w,o,x,dt,df,cj,aQ,iT,D,gO,C];refine⟨h-1,aa,h-1,r+f,fun t b d e=>?_,?_,?_,v aa,aa,aa,aa,rfl,rfl⟩
   ·simp(disch:=omega)only[cc];exact i t b d e
   ·simp only[go_sem];rw[E aa]
   ·simp only[go_sem];rfl
 ·have S:=BX (aa:h<4294967296) al;have p:(h:Int)*(m:Int)=((h*m:Nat):Int):=by rw[e7]
  have ba:=bb h r T;by_cases B:r*4294967296+Z<h*m
  ·have a8:=ba B;by_cases O:4294967296≤r+f
   ·obtain⟨W,Y⟩:=ad aa O;generalize h*m=p2 at S p B
    simp(disch:=omega)only[go_sem,y,J,w,K,o,x,dt,df,cj,aQ,iT,cR,D,U,V,M,gO,C,P,Q,p,yO,yA];refine N _ (h-1) (r+f) (fun t b d e=>?_) ?_ W aa (v aa) Y
    ·simp(disch:=omega)only[cc];exact i t b d e
    ·simp only[go_sem];rw[E aa]
   ·generalize h*m=p2 at S p B
    simp(disch:=omega)only[go_sem,y,J,w,K,o,x,dt,cj,aQ,iT,cR,D,U,V,M,gO,C,P,Q,p,yO,yA];refine⟨h-1,aa,h-1,r+f,fun t b d e=>?_,?_,?_,v aa,aa,aa,aa,rfl,rfl⟩
    ·simp(disch:=omega)only[cc];exact i t b d e
    ·simp only[go_sem];rw[E aa]
    ·simp only[go_sem];rfl
  ·have a7:h*m≤r*4294967296+Z:=aa;generalize cb:h*m=p2 at S p B
   simp(disch:=omega)only[go_sem,y,J,w,K,o,x,dt,df,cj,aQ,iT,cR,U,V,M,gO,P,Q,p,yO,yA];refine N _ h r (fun t b d e=>?_) ?_ aa a9 T a7
   ·simp(disch:=omega)only[cc];exact i t b d e
   ·simp only[go_sem,o]
theorem zy{n:Nat}(h:n<18446744073709551616):gM (gZ .and) [az (n:Int),az 4294967295]=some (.val (az ((n%4294967296:Nat):Int))):=by
 show some (bx.val (az (mH (ob .u64) (dK .u64) (Nat.land (gA (dK .u64) (n:Int)) (gA (dK .u64) 4294967295)))))=_;rw[sN h,xB,show gA (dK .u64) 4294967295=2^32-1 from rfl];exact congrArg (fun m:Nat=>some (bx.val (az (m:Int)))) (Nat.and_two_pow_sub_one_eq_mod n 32)
theorem anz(d f:List Nat)(n j q o c h:Nat)(bi:aM d)(be:aM f)(hn:d.length=n)(hj:j+n<o)(a3:f.length=o)(b0:o<4294967295)(hh:h<4294967296)
 (F:Fr) (H:ag) (R:X→Fr→ag→Prop) (ap:rd 9 F=mag d) (Z:rd 10 F=.slice q 0 o (.known c)) (ab:rd 11 F=ai (n:Int)) (ac:rd 14 F=ai (j:Int)) (ad:rd 16 F=az (h:Int)) (ae:rd 18 F=az 0) (al:rd 19 F=az 0) (am:rd 20 F=ai 0) (a2:H.get q=.cells (bJ f) 0)
 (hR:∀u v L a b,(∀t,t<151→t≠18→t≠19→t≠20→t≠21→t≠22→rd t u=rd t F)→rd 18 u=az ((a:Nat):Int)→rd 19 u=az ((b:Nat):Int)→a<4294967296→b≤1→L.length=o→aM L→(∀p,j+n≤p→L.getD p 0=f.getD p 0)→L.take j=f.take j→val L+4294967296^j*(h*val d)=val f+4294967296^(j+n)*(a+b)→
   (∀y,y≠q→v.get y=H.get y)→v.next=H.next→v.get q=.cells (bJ L) 0→R (.exit 6) u v):
 bT (.loop Ei) R F H:=by
 refine bW (fun k r x=>∃(i a b:Nat) (L:List Nat),(∀t,t<151→t≠18→t≠19→t≠20→t≠21→t≠22→rd t r=rd t F)∧rd 18 r=az ((a:Nat):Int)∧rd 19 r=az ((b:Nat):Int)∧rd 20 r=ai (i:Int)∧a<4294967296∧b≤1∧k=n-i∧i≤n∧L.length=o∧aM L∧(∀p,j+i≤p→L.getD p 0=f.getD p 0)∧L.take j=f.take j∧
  val L+4294967296^j*(h*val (d.take i))=val f+4294967296^(j+i)*(a+b)∧(∀y,y≠q→x.get y=H.get y)∧x.next=H.next∧x.get q=.cells (bJ L) 0) n ⟨0,0,0,f,fun _ _ _ _ _ _ _=>rfl,ae,al,am,aa,aa,rfl,ck _,a3,be,fun _ _=>rfl,rfl,by simp[val],fun _ _=>rfl,rfl,a2⟩ ?_
 rintro k r x ⟨i,a,b,L,m,K,M,N,a6,a5,rfl,hi,E,I,W,S,G,Q,P,O⟩;have f9:=(m 9 aa aa aa aa aa aa).trans ap;have ar:=(m 10 aa aa aa aa aa aa).trans Z;have J:=(m 11 aa aa aa aa aa aa).trans ab;have aw:=(m 14 aa aa aa aa aa aa).trans ac;have a0:=(m 16 aa aa aa aa aa aa).trans ad;unfold Ei;by_cases bo:i<n
 ·have bc:=bi.getD i;have ca:=I.getD (j+i);have bv:(bJ L).length=o:=by rw[gY,E]
  have i1:((i:Int)+(j:Int)).toNat=j+i:=aa;have U:=BX hh bc;have V:(h:Int)*((d.getD i 0:Nat):Int)=((h*d.getD i 0:Nat):Int):=by rw[e7]
  have bb:=om (l:=d) (i:=i) aa;have T:4294967296^j*(h*(val (d.take i)+4294967296^i*d.getD i 0))=4294967296^j*(h*val (d.take i))+4294967296^(j+i)*(h*d.getD i 0):=by
   rw[bU,bU,fX,k5 h,cg]
  generalize h*d.getD i 0=g at U V T
  have a9:(g:Int)+(a:Int)=((g+a:Nat):Int):=aa;obtain⟨s,a',b2,b'⟩:∃s:Nat,((((L.getD (j+i) 0:Nat):Int)-(((g+a)%4294967296:Nat):Int))%18446744073709551616-(b:Int))%18446744073709551616=(s:Int)∧s<18446744073709551616∧L.getD (j+i) 0+4294967296*(s/4294967296%2)=s%4294967296+(g+a)%4294967296+b:=by
   refine⟨((((L.getD (j+i) 0:Nat):Int)-(((g+a)%4294967296:Nat):Int)-(b:Int))%18446744073709551616).toNat,?_,?_,?_⟩<;>omega
  have ba:=pC (l:=L) (p:=j+i) (v:=s%4294967296) aa;simp(disch:=omega)only[go_sem,f9,ar,J,aw,a0,K,M,N,dt,cj,aQ,iT,cR,i1,O,gO,V,a9,pe,zy,gE,a',m4,n5,Ds,gk,ld];refine⟨n-(i+1),aa,i+1,(g+a)/4294967296,s/4294967296%2,L.set (j+i) (s%4294967296),fun t z A B C l D=>?_,?_,?_,?_,aa,aa,rfl,aa,by rw[ku,E],n7 I aa,fun p U=>?_,?_,?_,fun y Y=>?_,P,?_⟩
  ·simp(disch:=omega)only[cc];exact m t z A B C l D
  iterate 2 simp only[go_sem]
  ·simp only[go_sem];congr 1
  ·rw[getD_set_ne aa];exact W p aa
  ·rw[List.take_set_of_le aa];exact S
  ·rw[bb,T];have l:4294967296^(j+i)*(s%4294967296+(g+a)+b)=4294967296^(j+i)*(L.getD (j+i) 0+4294967296*((g+a)/4294967296+s/4294967296%2)):=congrArg _ aa;rw[show j+(i+1)=j+i+1 from rfl,c3,cg];generalize(g+a)/4294967296+s/4294967296%2=w at l
   generalize s%4294967296=e at l ba
   simp only[bU]at l G⊢;omega
  ·rw[ag.a_,au (fun e=>Y e.symm)];exact Q y Y
  ·rw[ag.a_,ay rfl]
 ·have a8:i=n:=aa;subst a8;simp(disch:=omega)only[go_sem,J,N,df];rw[cq aa]at G;refine hR _ _ L a b (fun t z A B C l D=>?_) ?_ ?_ a6 a5 E I W S G Q P O
  ·simp(disch:=omega)only[cc];exact m t z A B C l D
  iterate 2 simp only[go_sem,K,M]
theorem adV(a d:List Nat)(n j g f c:Nat)(a1:aM a)(a0:aM d)(hn:a.length=n)(hj:j+n<f)(ab:d.length=f)(a6:f<4294967295)
 (F:Fr) (H:ag) (R:X→Fr→ag→Prop) (U:rd 9 F=mag a) (O:rd 10 F=.slice g 0 f (.known c)) (P:rd 11 F=ai (n:Int)) (Q:rd 14 F=ai (j:Int)) (S:rd 18 F=az 0) (T:rd 24 F=ai 0) (Z:H.get g=.cells (bJ d) 0)
 (hR:∀q m L b,(∀t,t<212→t≠18→t≠24→rd t q=rd t F)→rd 18 q=az ((b:Nat):Int)→b≤1→L.length=f→aM L→(∀p,j+n≤p→L.getD p 0=d.getD p 0)→L.take j=d.take j→val L+4294967296^(j+n)*b=val d+4294967296^j*val a→
   (∀y,y≠g→m.get y=H.get y)→m.next=H.next→m.get g=.cells (bJ L) 0→R (.exit 8) q m):
 bT (.loop Ej) R F H:=by
 refine bW (fun k l o=>∃(i b:Nat) (L:List Nat),(∀t,t<212→t≠18→t≠24→rd t l=rd t F)∧rd 18 l=az ((b:Nat):Int)∧rd 24 l=ai (i:Int)∧b≤1∧k=n-i∧i≤n∧L.length=f∧aM L∧(∀p,j+i≤p→L.getD p 0=d.getD p 0)∧L.take j=d.take j∧
  val L+4294967296^(j+i)*b=val d+4294967296^j*val (a.take i)∧(∀y,y≠g→o.get y=H.get y)∧o.next=H.next∧o.get g=.cells (bJ L) 0) n ⟨0,0,d,fun _ _ _ _=>rfl,S,T,aa,rfl,ck _,ab,a0,fun _ _=>rfl,rfl,by simp[val],fun _ _=>rfl,rfl,Z⟩ ?_
 rintro k l o ⟨i,b,L,h,D,E,ad,rfl,hi,z,B,M,K,A,J,I,G⟩;have Y:=(h 9 aa aa aa).trans U;have V:=(h 10 aa aa aa).trans O;have C:=(h 11 aa aa aa).trans P;have W:=(h 14 aa aa aa).trans Q;unfold Ej;by_cases a3:i<n
 ·have ba:=a1.getD i;have a':=B.getD (j+i);have a5:(bJ L).length=f:=by rw[gY,z]
  have i1:((i:Int)+(j:Int)).toNat=j+i:=aa;have ar:=om (l:=a) (i:=i) aa;have al:4294967296^j*(val (a.take i)+4294967296^i*a.getD i 0)=4294967296^j*val (a.take i)+4294967296^(j+i)*a.getD i 0:=by
   rw[bU,fX,cg]
  obtain⟨s,hs⟩:∃s,s=b+(L.getD (j+i) 0+a.getD i 0):=⟨_,rfl⟩;have am:(b:Int)+(((L.getD (j+i) 0:Nat):Int)+((a.getD i 0:Nat):Int))=(s:Int):=aa;have ap:=pC (l:=L) (p:=j+i) (v:=s%4294967296) aa;simp(disch:=omega)only[go_sem,Y,V,C,W,D,E,dt,cj,aQ,iT,cR,i1,G,gO,am,pe,m4,n5,gk,ld];refine⟨n-(i+1),aa,i+1,s/4294967296,L.set (j+i) (s%4294967296),fun t r u v=>?_,?_,?_,aa,rfl,aa,by rw[ku,z],n7 B aa,fun p hp=>?_,?_,?_,fun y N=>?_,I,?_⟩
  ·simp(disch:=omega)only[cc];exact h t r u v
  ·simp only[go_sem]
  ·simp only[go_sem];congr 1
  ·rw[getD_set_ne aa];exact M p aa
  ·rw[List.take_set_of_le aa];exact K
  ·rw[ar,al];have x:4294967296^(j+i)*(s%4294967296+4294967296*(s/4294967296))=4294967296^(j+i)*(b+(L.getD (j+i) 0+a.getD i 0)):=congrArg _ aa;rw[show j+(i+1)=j+i+1 from rfl,c3,cg];generalize s/4294967296=w at x
   generalize s%4294967296=e at x ap
   simp only[bU]at x A⊢;omega
  ·rw[ag.a_,au (fun e=>N e.symm)];exact J y N
  ·rw[ag.a_,ay rfl]
 ·have ae:i=n:=aa;subst ae;simp(disch:=omega)only[go_sem,C,E,df];rw[cq aa]at A;refine hR _ _ L b (fun t r u v=>?_) ?_ ad z B M K A J I G
  ·simp(disch:=omega)only[cc];exact h t r u v
  ·simp only[go_sem,D]
end Go.Proofs.YtddhncjmaahodaaGreatDoor
namespace Go.aV
theorem qt:∀ {l:List Nat}{k:Nat},(∀p,k≤p→l.getD p 0=0)→val l=val (l.take k)
 |[],_,_=>aJ
 |d::l,0,h=>by
  have b:=h 0 (aR _);have a:=qt (l:=l) (k:=0) (fun p _=>by simpa using h (p+1) (ck _));simp at b a;simp[val,b,a]
 |d::l,k+1,h=>by
  have a:=qt (l:=l) (k:=k) (fun p c=>by simpa using h (p+1) aa);simp only[List.take_succ_cons,val,a]
theorem zq:∀ {l:List Nat}{k:Nat},val l<4294967296^k→∀p,k≤p→l.getD p 0=0
 |[],_,_,p,_=>aJ
 |d::l,0,h,p,_=>by
  simp[val]at h;have b:val l=0:=aa;cases p with
  |zero=>simp;omega
  |succ p=>simpa using zq (l:=l) (k:=0) (by simpa using b) p (ck _)
 |d::l,k+1,h,0,a=>absurd a aa
 |d::l,k+1,h,p+1,a=>by
  have:val l<4294967296^k:=by
   simp only[val,c3]at h;omega
  simpa using zq this p aa
theorem oh(l:List Nat)(j:Nat)(h:j≤l.length):val l=val (l.take j)+4294967296^j*val (l.drop j):=by
 have:=congrArg val (oC j l);rw[fl,gK h]at this;exact this.symm
theorem p8(l:List Nat)(j p:Nat):(l.drop j).getD p 0=l.getD (j+p) 0:=by
 simp[c_,pJ]
theorem sX{l:List Nat}{i:Nat}(h:i<l.length):val (l.drop i)=l.getD i 0+4294967296*val (l.drop (i+1)):=by
 rw[kr h,c_,cH h];rfl
theorem uo{l:List Nat}{n:Nat}(e:2≤n)(f:n≤l.length)(d:∀p,n≤p→l.getD p 0=0):val l=(l.getD (n-1) 0*4294967296+l.getD (n-2) 0)*4294967296^(n-2)+val (l.take (n-2)):=by
 have c:val (l.drop n)=0:=by
  have:=qt (l:=l.drop n) (k:=0) (fun p _=>by rw[p8];exact d _ aa);simpa [val]using this
 have a:=pB (l:=l) (i:=n-2) aa;have b:=sX (l:=l) (i:=n-1) aa;rw[(aa:n-1+1=n)]at b;rw[(aa:n-2+1=n-1)]at a;rw[a,b,c,fe,cO,b3 _ (4294967296^(n-2)),iy (val _),iy (l.getD (n-2) 0),b3 4294967296]
section
variable {T U V h k bL P Q K3 adt C1 ar_ q:Nat}
theorem aq'(d:T=C1+Q*U)(e:K3+Q*(h*V)=T+P*k)(f:K3<P*(bL+1))(b:bL<k):U<h*V:=by
 have c:P*(bL+1)≤P*k:=fc _ b;have a:Q*U<Q*(h*V):=aa;exact Nat.lt_of_mul_lt_mul_left a
theorem an5(b:T=C1+Q*U)(d:C1<Q)(c:adt+Q*(h*V)=T):h*V≤U:=by
 have a:Q*(h*V)<Q*(U+1):=by rw[bU,dQ];omega
 have:=Nat.lt_of_mul_lt_mul_left a;omega
end
variable{d:List Nat}{a:Nat}{g:Nat}
theorem ab1{b:List Nat}{V:Nat}(i:a≤d.length)(j:a≤b.length)(l:b.take a=d.take a)(p:val b+4294967296^a*(g*V)=val d)(k:g=val (d.drop a)/V)(f:0<V):val (b.drop a)<V:=by
 have m:=oh d a i;have c:=oh b a j;rw[l]at c;have h:4294967296^a*(val (b.drop a)+g*V)=4294967296^a*val (d.drop a):=by rw[bU];omega
 have n:=Nat.eq_of_mul_eq_mul_left (e8 aa) h;have e:=iN (val (d.drop a)) V;have o:=eK (val (d.drop a)) f;rw[←k,b3]at e;omega
theorem Lu(V Q h w:Nat):V*(Q*(h+4294967296*w))=Q*(h*V)+V*(Q*4294967296*w):=by
 rw[bU,bU,k5 V Q h,b3 V h,cg Q]
end Go.aV
namespace Go.Proofs.YtddhncjmaahodaaGreatDoor
open Go.aE Go.aV
theorem acv(n:Nat):ql (n:Int) (dO 63 (gq .u64))=((n/9223372036854775808:Nat):Int):=rfl
theorem apu(x u W r:Nat):x*(W*4294967296)+(r+W*u)=(x*4294967296+u)*W+r:=by
 rw[cZ,b3 W 4294967296,←cg,b3 W u];omega
variable{a:Nat}{g:Nat}{z:Nat}{I:Nat}
theorem amN{U V W d e:Nat}(i:U=(a*4294967296+g)*W+z)(j:V=(I*4294967296+d)*W+e)(l:e<W)(h:U<V)(k:d<4294967296):a≤I:=by
 rcases k4 I a with h1|h1
 ·have f:(I+1)*4294967296≤a*4294967296+g:=aa;have b:((I+1)*4294967296)*W≤(a*4294967296+g)*W:=dz _ f;have c:(I*4294967296+d+1)*W≤((I+1)*4294967296)*W:=dz _ aa;rw[cZ (I*4294967296+d) 1 W,fM]at c;omega
 ·exact h1
set_option maxHeartbeats 4000000 in
theorem agK(a:List Nat)(n m u i c A:Nat)(y:aM a)(hn:a.length=n)(bc:2≤n)(hi:c=m+n+1)(ba:c<4294967295)(fp:2147483648≤a.getD (n-1) 0)(x:¬u=i)(B:List Nat)(f6:aM B)(eh:B.length=c)(hA:val B=A)(et:val (B.drop (m+1))<val a)
 (F:Fr) (H:ag) (R:X→Fr→ag→Prop) (a3:rd 9 F=mag a) (Z:rd 10 F=.slice u 0 c (.known c)) (ab:rd 11 F=ai (n:Int)) (ac:rd 13 F=.slice i 0 (m+1) (.known (m+1))) (d5:rd 14 F=ai (m:Int)) (d8:H.get u=.cells (bJ B) 0) (ed:H.get i=.cells (bJ (br (m+1) 0)) 0)
 (hR:∀F' W L b,(∀t,t<14→rd t F'=rd t F)→L.length=c→aM L→aM b→b.length=m+1→val L+val a*val b=A→val L<val a→W.get u=.cells (bJ L) 0→W.get i=.cells (bJ b) 0→W.next=H.next→R (.exit 2) F' W):
 bT (.loop Ek) R F H:=by
 refine bW (fun k T Y=>∃(J:Nat) (L b:List Nat),(∀t,t<14→rd t T=rd t F)∧rd 14 T=ai ((J:Int)-1)∧k=J∧J≤m+1∧L.length=c∧aM L∧aM b∧b.length=m+1-J∧val L+val a*(4294967296^J*val b)=A∧val (L.drop J)<val a∧Y.get u=.cells (bJ L) 0∧Y.get i=.cells (bJ (br J 0++b)) 0∧Y.next=H.next) (m+1)
  ⟨m+1,B,[],fun _ _=>rfl,by rw[d5];congr 1;omega,rfl,aR _,eh,f6,aM.nil,aJ,by rw[show val []=0 from rfl,fe,fe,cO];exact hA,et,d8,by simpa using ed,rfl⟩ ?_
 rintro J T Y ⟨_,L,b,C,a4,rfl,gg,hl,g,cb,hp,hv,a9,ad,dp,bb⟩;have f9:=(C 9 aa).trans a3;have cf:=(C 10 aa).trans Z;have ch:=(C 11 aa).trans ab;have ge:=(C 13 aa).trans ac;unfold Ek;cases J with
 |zero=>
  simp(disch:=omega)only[go_sem,a4,dt];refine hR _ _ L b (fun t f=>?_) hl g cb aa (by simpa using hv) (by simpa using a9) ad (by simpa using dp) bb;simp(disch:=omega)only[cc];exact C t f
 |succ j=>
  have a5:rd 14 T=ai (j:Int):=by rw[a4];congr 1;omega
  clear a4;have eq:val a<4294967296^n:=by rw[←hn];exact gC y
  have hz:∀p,n≤p→(L.drop (j+1)).getD p 0=0:=zq (oG a9 eq);have b2:∀p,j+n+1≤p→L.getD p 0=0:=fun p I=>by
   have:=hz (p-(j+1)) aa;rw[p8]at this;rwa[(aa:j+1+(p-(j+1))=p)]at this
  have O:=uo (l:=a) bc aa (fun p I=>by rw[c_,m9 aa];rfl);have d0:val (a.take (n-2))<4294967296^(n-2):=by
   have:=gC (y.take (n-2));rwa[gK aa]at this
  have hh:j+n<L.length:=aa;have N:=uo (l:=L.drop j) (n:=n+1) aa (by rw[gF];omega) (fun p I=>by rw[p8];exact b2 _ aa);have bo:=om (l:=L.drop j) (i:=n-2) (by rw[gF];omega);rw[(aa:n+1-1=n),(aa:n+1-2=n-1),p8,p8]at N;rw[(aa:n-2+1=n-1),p8]at bo;have b0:val ((L.drop j).take (n-2))<4294967296^(n-2):=by
   have:=gC ((g.drop j).take (n-2));rwa[gK (by rw[gF];omega)]at this
  have e1:4294967296^(n-1)=4294967296^(n-2)*4294967296:=by rw[(aa:n-1=n-2+1),c3]
  rw[bo,e1]at N;have K:j+(n-1)=j+n-1:=aa;have e2:j+(n-2)=j+n-2:=aa;rw[K,e2]at N;obtain⟨l,bs⟩:∃l,l=L.getD (j+n) 0*4294967296+L.getD (j+n-1) 0:=⟨_,rfl⟩;have ae:val (L.drop j)=(l*4294967296+L.getD (j+n-2) 0)*4294967296^(n-2)+val ((L.drop j).take (n-2)):=by
   rw[N,bs];exact apu _ _ _ _
  have fn:L.getD (j+n) 0≤a.getD (n-1) 0:=by
   have h1:=uo (l:=L.drop (j+1)) bc (by rw[gF];omega) hz;rw[p8,p8,(aa:j+1+(n-1)=j+n)]at h1;exact amN h1 O d0 a9 (y.getD _)
  have fa:val (L.drop j)/val a<4294967296:=by
   rw[pM aa,sX aa];have:=g.getD j;omega
  have hq:val (L.drop j)/val a*val a≤val (L.drop j):=vg _ _;have dk:=BI O ae b0 (g.getD _) aa hq;have cs:0<a.getD (n-1) 0:=aa;obtain⟨M,E⟩:∃M,M=l/a.getD (n-1) 0:=⟨_,rfl⟩;obtain⟨S,ar⟩:∃S,S=l%a.getD (n-1) 0:=⟨_,rfl⟩;have du:l=M*a.getD (n-1) 0+S:=by rw[E,ar,b3];exact(iN _ _).symm
  have fb:S<a.getD (n-1) 0:=by rw[ar];exact eK _ cs
  have b1:=g.getD (j+n);have f8:=g.getD (j+n-1);have f':=y.getD (n-1);have hr:M≤l:=by rw[E];exact g7 _ _
  have hd:(bJ L).length=c:=by rw[gY,hl]
  have i1:((j:Int)+(n:Int)).toNat=j+n:=aa;have i2:((j:Int)+(n:Int)-1).toNat=j+n-1:=aa;have i3:((n:Int)-1).toNat=n-1:=aa;have hj:((a.getD (n-1) 0:Nat):Int)≠0:=aa;rw[bs]at E ar;simp(disch:=omega)only[go_sem,f9,cf,ch,a5,df,cj,aQ,iT,cR,i1,i2,i3,ad,gO,yO,yA,iC,k_,qp,wU,←E,←ar];have dC:l≤a.getD (n-1) 0*4294967296+4294967295:=by
   have:=dz 4294967296 fn;omega
  rw[←bs]at E;refine ahl a L n j u c c y g hn bc aa hl ba (val (L.drop j)/val a) l M S fp (fun h r K e2=>BJ O ae b0 hq K e2) fa dC du fb (by rw[E];exact dk) _ _ _ ?_ ?_ ?_ ?_ ?_ ?_ ad ?_
  iterate 6 simp only[go_sem,f9,cf,ch,a5]
  intro ce h r g2 qY a' hk dv da;have G:∀t,t<14→rd t ce=rd t F:=fun t f=>by
   rw[g2 t aa aa aa];simp(disch:=omega)only[cc];exact C t f
  have p6:rd 14 ce=ai (j:Int):=by
   rw[g2 14 aa aa aa];simp(disch:=omega)only[cc];exact a5
  have dE:=BK O ae d0 cs dv a' da;have dj:=(G 9 aa).trans a3;have co:=(G 10 aa).trans Z;have sk:=(G 11 aa).trans ab;have qX:=(G 13 aa).trans ac;clear g2 du dC dv da dk ae N bo b0 O;rw[fu];simp(disch:=omega)only[go_sem];refine anz a L n j u c c h y g hn aa hl ba a' _ _ _ ?_ ?_ ?_ ?_ ?_ ?_ ?_ ?_ ad ?_
  iterate 8 simp only[go_sem,dj,co,sk,p6,qY]
  intro a0 H3 d v q g3 BG BH g1 g0 Q ca bv dd fr ea c1 c0;have z:∀t,t<14→rd t a0=rd t F:=fun t f=>by
   rw[g3 t aa aa aa aa aa aa];simp(disch:=omega)only[cc];exact G t f
  have sv:rd 14 a0=ai (j:Int):=by
   rw[g3 14 aa aa aa aa aa aa];simp(disch:=omega)only[cc];exact p6
  have v_:rd 16 a0=az (h:Int):=by
   rw[g3 16 aa aa aa aa aa aa];simp(disch:=omega)only[cc];exact qY
  have mb:=(z 9 aa).trans a3;have b':=(z 10 aa).trans Z;have oX:=(z 11 aa).trans ab;have yb:=(z 13 aa).trans ac;have dq:H3.get i=.cells (bJ (br (j+1) 0++b)) 0:=(ea i (fun e=>x e.symm)).trans dp;have P:d.getD (j+n) 0=L.getD (j+n) 0:=bv _ (aR _);have he:(bJ d).length=c:=by rw[gY,Q]
  have hg:(bJ (br (j+1) 0++b)).length=m+1:=by rw[gY];simp;omega
  clear g3 G p6 qY dj co sk qX;rw[fu];have gc:=g.getD (j+n);by_cases e0:L.getD (j+n) 0<v+q
  ·obtain⟨s,bi,ds,be,fg⟩:∃s:Nat,((((L.getD (j+n) 0:Nat):Int)-(v:Int))%18446744073709551616-(q:Int))%18446744073709551616=(s:Int)∧s<18446744073709551616∧s%4294967296+(v+q)=L.getD (j+n) 0+4294967296∧s/9223372036854775808=1:=by
    refine⟨((((L.getD (j+n) 0:Nat):Int)-(v:Int)-(q:Int))%18446744073709551616).toNat,?_,?_,?_,?_⟩<;>omega
   have bj:=pC (l:=d) (p:=j+n) (v:=s%4294967296) aa;rw[P]at bj;have hP:4294967296^(j+n)*(s%4294967296)+4294967296^(j+n)*(v+q)=4294967296^(j+n)*L.getD (j+n) 0+4294967296^(j+n)*4294967296:=by
    rw[←bU,←bU,be]
   have ha:val (d.set (j+n) (s%4294967296))+4294967296^j*(h*val a)=val L+4294967296^(j+n)*4294967296:=aa;have am:=gC (g.take j);rw[gK aa]at am;have d6:=oh L j aa;have ft:val d<4294967296^(j+n)*(L.getD (j+n) 0+1):=by
    have K:=qt (l:=d) (k:=j+n+1) (fun p I=>by rw[bv p aa];exact b2 p I);rw[K,om aa,P,bU,dQ];have:=gC (ca.take (j+n));rw[gK aa]at this;omega
   have ev:=aq' d6 fr ft e0;have c2:0<val a:=aa;have hm:val (L.drop j)/val a<h:=(pM c2).2 ev;have ho:h-1≤val (L.drop j)/val a:=(rO c2).2 dE;have bd:h-1=val (L.drop j)/val a:=aa;have eQ:c=d.length:=Q.symm;have fx:((h:Int)-1)=((h-1:Nat):Int):=aa;simp(disch:=omega)only[go_sem,b',oX,sv,v_,BG,BH,dt,cj,aQ,cR,i1,c0,P,gO,gE,bi,acv,fg,m4,n5,gk,ld,fx];have el:(d.set (j+n) (s%4294967296)).length=c:=by rw[ku,Q]
   refine adV a (d.set (j+n) (s%4294967296)) n j u c c y (n7 ca aa) hn aa el ba _ _ _ ?_ ?_ ?_ ?_ ?_ ?_ ?_ ?_
   iterate 6 simp only[go_sem,mb,b',oX,sv]
   ·rw[ag.a_,ay rfl]
   intro U H4 o w g4 _ g' db d2 dT ex ht eb d' d9;have f0:= ‹rd 18 U=_›;have V:∀t,t<14→rd t U=rd t F:=fun t f=>by
    rw[g4 t aa aa aa];simp(disch:=omega)only[cc];exact z t f
   have f4:rd 14 U=ai (j:Int):=by
    rw[g4 14 aa aa aa];simp(disch:=omega)only[cc];exact sv
   have f5:rd 16 U=az ((h-1:Nat):Int):=by
    rw[g4 16 aa aa aa];simp only[go_sem]
   have f1:=(V 10 aa).trans Z;have f2:=(V 11 aa).trans ab;have f3:=(V 13 aa).trans ac;have e':H4.get i=.cells (bJ (br (j+1) 0++b)) 0:=by
    rw[eb i (fun e=>x e.symm),ag.a_,au x];exact dq
   have a8:o.getD (j+n) 0=s%4294967296:=by
    rw[dT _ (aR _),c_,List.getElem?_set_self aa];rfl
   have hQ:4294967296^j*(h*val a)=4294967296^j*((h-1)*val a)+4294967296^j*val a:=by
    rw[←bU,←pO,(aa:(h-1).succ=h)]
   have hb:4294967296^j*((h-1)*val a)≤val L:=by
    have:=fc (4294967296^j) dE;omega
   have gt:val o+4294967296^(j+n)*w+4294967296^j*((h-1)*val a)=val L+4294967296^(j+n)*4294967296:=aa;have hc:s%4294967296+w=4294967296:=by
    refine m6 fun hc=>?_
    have hs:=pC (l:=o) (p:=j+n) (v:=s%4294967296+w) aa;rw[a8,bU]at hs;have qa:=qt (l:=o.set (j+n) (s%4294967296+w)) (k:=j+n+1) (fun p I=>by
     rw[getD_set_ne aa,dT p aa,getD_set_ne aa,bv p aa];exact b2 p I)
    have es:=gC ((n7 d2 (p:=j+n) (v:=s%4294967296+w) aa).take (j+n+1));rw[←qa,gK (by rw[ku];omega),c3]at es;omega
   have fi:=pC (l:=o) (p:=j+n) (v:=0) aa;rw[a8,fe,cO]at fi;have go:4294967296^(j+n)*(s%4294967296)+4294967296^(j+n)*w=4294967296^(j+n)*4294967296:=by rw[←bU,hc]
   have D:val (o.set (j+n) 0)+4294967296^j*((h-1)*val a)=val L:=aa;have hw:aG .u32 (((s%4294967296:Nat):Int)+(w:Int))=((0:Nat):Int):=by rw[m4];omega
   have hf:(bJ o).length=c:=by rw[gY,db]
   rw[fu];simp(disch:=omega)only[go_sem,f1,f2,f3,f4,f5,f0,gd,aQ,cR,i1,d9,a8,gO,hw,gk,ld,x,e',Km];refine⟨j,aa,j,o.set (j+n) 0,(h-1)::b,fun t f=>?_,?_,rfl,aa,by rw[ku,db],n7 d2 aa,.mk aa cb,by simp;omega,?_,ab1 aa (by rw[ku];omega) (by rw[List.take_set_of_le aa,ex,List.take_set_of_le aa];exact dd) D bd aa,?_,?_,by rw[iI,iI,d',iI,c1,bb]⟩
   ·simp(disch:=omega)only[cc];exact V t f
   ·simp only[go_sem]
   ·have a2:val ((h-1)::b)=(h-1)+4294967296*val b:=rfl;rw[a2,Lu,←jq,D,←hv,c3]
   ·rw[ag.a_,au (fun e=>x e.symm),ag.a_,ay rfl]
   ·rw[ag.a_,ay rfl]
  ·obtain⟨s,bi,ds,be⟩:∃s:Nat,((L.getD (j+n) 0:Nat):Int)-(v:Int)-(q:Int)=(s:Int)∧s<4294967296∧L.getD (j+n) 0=s+(v+q):=⟨L.getD (j+n) 0-(v+q),aa,aa,aa⟩;have bj:=pC (l:=d) (p:=j+n) (v:=s) aa;rw[P,be,bU]at bj;have D:val (d.set (j+n) s)+4294967296^j*(h*val a)=val L:=aa;have bd:h=val (L.drop j)/val a:=by
    have e:=oh L j aa;have am:=gC (g.take j);rw[gK aa]at am;have:=an5 e am D;have:=(rO (aa:0<val a)).2 this;omega
   have eQ:c=d.length:=Q.symm;simp(disch:=omega)only[go_sem,b',oX,yb,sv,v_,BG,BH,df,cj,gd,aQ,cR,i1,c0,P,gO,bi,acv,gk,ld,x,dq,Km];refine⟨j,aa,j,d.set (j+n) s,h::b,fun t f=>?_,?_,rfl,aa,by rw[ku,Q],n7 ca ds,.mk a' cb,by simp;omega,?_,ab1 aa (by rw[ku];omega) (by rw[List.take_set_of_le aa];exact dd) D bd aa,?_,?_,by rw[iI,iI,c1,bb]⟩
   ·simp(disch:=omega)only[cc];exact z t f
   ·simp only[go_sem]
   ·have a2:val (h::b)=h+4294967296*val b:=rfl;rw[a2,Lu,←jq,D,←hv,c3]
   ·rw[ag.a_,au (fun e=>x e.symm),ag.a_,ay rfl]
   ·rw[ag.a_,ay rfl]
end Go.Proofs.YtddhncjmaahodaaGreatDoor
namespace Go.aV
def shr(s:Nat):List Nat→List Nat
 |[]=>[]
 |[d]=>[d/2^s]
 |d::e::l=>(d/2^s+(e%2^s)*2^(32-s))::shr s (e::l)
theorem rA(s:Nat):∀l,(shr s l).length=l.length
 |[]=>rfl
 |[_]=>rfl
 |d::e::l=>by simp[shr,rA s (e::l)]
variable{a:Nat}
theorem two32(b:a≤31):(4294967296:Nat)=2^a*2^(32-a):=by
 rw[←fX,(aa:a+(32-a)=32)]
theorem wO(b:a≤31):∀l,val (shr a l)=val l/2^a
 |[]=>by simp[shr,val]
 |[d]=>by simp[shr,val]
 |d::e::l=>by
  have i:=wO b (e::l);have h:0<2^a:=e8 aa;have f:val (e::l)%2^a=e%2^a:=by
   show(e+4294967296*val l)%2^a=e%2^a;rw[two32 b,cg,Nat.add_mul_mod_self_left]
  have g:val (d::e::l)/2^a=d/2^a+2^(32-a)*val (e::l):=by
   show(d+4294967296*val (e::l))/2^a=_;rw[two32 b,cg,Nat.add_mul_div_left _ _ h]
  have c:=iN (val (e::l)) (2^a);rw[f]at c;rw[g];show d/2^a+(e%2^a)*2^(32-a)+4294967296*val (shr a (e::l))=_;rw[i,two32 b,rR (2^a),b3 (2^a*(val (e::l)/2^a)),b3 (e%2^a),jq,←bU,iy (e%2^a),c]
theorem uL(b:a≤31):∀ {l},aM l→aM (shr a l)
 |[],h=>h
 |[d],h=>by
  have:=h.cons.1;exact .mk (eH (g7 _ _) this) aM.nil
 |d::e::l,h=>by
  refine .mk ?_ (uL b h.cons.2);have c:0<2^a:=e8 aa;have g:=h.cons.1;have i:d/2^a<2^(32-a):=by
   rw[pM c,b3,←two32 b];exact g
  have f:(e%2^a+1)*2^(32-a)≤2^a*2^(32-a):=dz _ (eK _ c);rw[←two32 b,cZ,fM]at f;omega
theorem wN{s:Nat}:∀ {l:List Nat}{i:Nat},i<l.length→(shr s l).getD i 0=l.getD i 0/2^s+(l.getD (i+1) 0%2^s)*2^(32-s)
 |[],_,h=>absurd h (pN _)
 |[d],0,_=>by simp[shr]
 |[_],_+1,h=>by simp at h
 |d::e::l,0,_=>by simp[shr]
 |d::e::l,i+1,h=>by
  have a:=wN (s:=s) (l:=e::l) (i:=i) (by simpa using h);simpa [shr]using a
end Go.aV
namespace Go.Proofs.YtddhncjmaahodaaGreatDoor
open Go.aE Go.aV
theorem lI(x k:Nat):ql (x:Int) k=((x/2^k:Nat):Int):=rfl
variable{d:List Nat}{a:Nat}
theorem I6{v:Nat}(h:a<d.length):(d.set a v).getD a 0=v:=by
 rw[c_,List.getElem?_set_self h];rfl
theorem aol{x e:Nat}(b:a≤31)(g:x<4294967296):x/2^a|||(e*2^(32-a))%4294967296=x/2^a+(e%2^a)*2^(32-a):=by
 have f:0<2^a:=e8 aa;have c:x/2^a<2^(32-a):=by
  rw[pM f,b3,←two32 b];exact g
 have d:(e*2^(32-a))%4294967296=(e%2^a)<<<(32-a):=by
  rw[two32 b,qJ,Nat.shiftLeft_eq]
 rw[d,Nat.or_comm,←Nat.shiftLeft_add_eq_or_of_lt c,iy,Nat.shiftLeft_eq]
theorem aqe(l Y:List Nat)(s d c:Nat)(ab:aM Y)(P:∀p,p<l.length→Y.getD p 0=l.getD p 0)(V:s≤31)(a9:l.length≤Y.length)(bc:Y.length<4294967295)
 (F:Fr) (H:ag) (R:X→Fr→ag→Prop) (ae:rd 8 F=az (s:Int)) (ac:rd 25 F=.slice d 0 l.length (.known c)) (ad:rd 26 F=ai 0) (aw:H.get d=.cells (bJ Y) 0)
 (hR:∀N u M,(∀t,t<260→t≠26→rd t N=rd t F)→M.length=Y.length→aM M→(∀p,p<l.length→M.getD p 0=(shr s l).getD p 0)→(∀y,y≠d→u.get y=H.get y)→u.next=H.next→u.get d=.cells (bJ M) 0→R (.exit 10) N u):
 bT (.loop El) R F H:=by
 refine bW (fun k C z=>∃(i:Nat) (M:List Nat),(∀t,t<260→t≠26→rd t C=rd t F)∧rd 26 C=ai (i:Int)∧k=l.length-i∧i≤l.length∧M.length=Y.length∧aM M∧(∀p,p<i→M.getD p 0=(shr s l).getD p 0)∧(∀p,i≤p→p<l.length→M.getD p 0=l.getD p 0)∧(∀y,y≠d→z.get y=H.get y)∧z.next=H.next∧z.get d=.cells (bJ M) 0) l.length
  ⟨0,Y,fun _ _ _=>rfl,ad,rfl,ck _,rfl,ab,fun p g=>absurd g (pN _),fun p _ g=>P p g,fun _ _=>rfl,rfl,aw⟩ ?_
 rintro k C z ⟨i,M,m,E,rfl,hi,f,r,L,K,J,I,G⟩;have O:=(m 8 aa aa).trans ae;have D:=(m 25 aa aa).trans ac;unfold El;have g:0<2^s:=e8 aa;by_cases S:i<l.length
 ·have B:=r.getD i;have a':(bJ M).length=Y.length:=by rw[gY,f]
  have i1:((i:Int)+1).toNat=i+1:=aa;have Z:dO s (gq .u32)=s:=kf (aa:s≤32);have a6:dO (32-s) (gq .u64)=32-s:=kf (aa:32-s≤64);have ar:(32:Int)-(s:Int)=((32-s:Nat):Int):=aa;have o:=wN (s:=s) S;rw[←K i (aR _) S]at o;have Q:M.getD i 0/2^s≤M.getD i 0:=g7 _ _;by_cases hj:i+1<l.length
  ·have he:=r.getD (i+1);rw[←K (i+1) aa hj]at o;have A:=aol (x:=M.getD i 0) (e:=M.getD (i+1) 0) V B;rw[←o]at A;have T:((M.getD (i+1) 0:Nat):Int)*((2^(32-s):Nat):Int)=((M.getD (i+1) 0*2^(32-s):Nat):Int):=by rw[e7]
   have a4:M.getD (i+1) 0*2^(32-s)≤4294967295*4294967296:=jO aa (cI (fN (n:=2) aa (aa:32-s≤32)) (aR _));generalize M.getD (i+1) 0*2^(32-s)=v at A T a4
   obtain⟨w,W⟩:∃w,w=M.getD i 0/2^s:=⟨_,rfl⟩;rw[←W]at A Q;have g1:(M.set i w).getD i 0=w:=I6 aa;have g2:(M.set i w).getD (i+1) 0=M.getD (i+1) 0:=getD_set_ne aa;have ba:(bJ (M.set i w)).length=Y.length:=by rw[gY,ku,f]
   have bb:(M.set i w).length=Y.length:=by rw[ku,f]
   have a3:=(uL V (l:=l) (fun x B=>by
    obtain⟨q,U,rfl⟩:=List.getElem_of_mem B;have a:=ab.getD q;rw[P q U,c_,cH U]at a;exact a)).getD i
   simp(disch:=omega)only[go_sem,O,D,E,dt,aQ,cR,i1,G,gO,Z,a6,lI,←W,ar,g1,g2,T,cj,m4,n5,abm,A,gk,ld,List.set_set];refine⟨l.length-(i+1),aa,i+1,M.set i ((shr s l).getD i 0),fun t a b=>?_,?_,rfl,aa,by rw[ku,f],n7 r a3,fun p g=>?_,fun p a b=>?_,fun y j=>?_,I,?_⟩
   ·simp(disch:=omega)only[cc];exact m t a b
   ·simp only[go_sem];rfl
   ·by_cases e:p=i
    ·rw[e,I6 aa]
    ·rw[getD_set_ne (fun h=>e h.symm)];exact L p aa
   ·rw[getD_set_ne aa];exact K p aa b
   ·rw[ag.a_,au (fun e=>j e.symm),ag.a_,au (fun e=>j e.symm)];exact J y j
   ·rw[ag.a_,ay rfl]
  ·have h0:l.getD (i+1) 0=0:=by rw[c_,m9 aa];rfl
   rw[h0,Nat.zero_mod,jE,cO]at o;simp(disch:=omega)only[go_sem,O,D,E,dt,df,aQ,cR,G,gO,Z,lI,gk,ld];refine⟨l.length-(i+1),aa,i+1,M.set i (M.getD i 0/2^s),fun t a b=>?_,?_,rfl,aa,by rw[ku,f],n7 r (eH Q B),fun p g=>?_,fun p a b=>?_,fun y j=>?_,I,?_⟩
   ·simp(disch:=omega)only[cc];exact m t a b
   ·simp only[go_sem];rfl
   ·by_cases e:p=i
    ·rw[e,I6 aa,o]
    ·rw[getD_set_ne (fun h=>e h.symm)];exact L p aa
   ·omega
   ·rw[ag.a_,au (fun e=>j e.symm)];exact J y j
   ·rw[ag.a_,ay rfl]
 ·have a1:i=l.length:=aa;subst a1;simp(disch:=omega)only[go_sem,D,E,df];refine hR _ _ M (fun t a b=>?_) f r L J I G;simp(disch:=omega)only[cc];exact m t a b
theorem agv(l:List Nat)(n:Nat):(bJ l).take n=bJ (l.take n):=by simp[bJ,List.map_take]
variable{c:ag}{J:ag}{g:Nat}
theorem ah7{b:Cap}{l:List Nat}(h:c.get a=.cells (bJ d) 0)(i:J.get a=.none)(k:l.length=g)(f:d.take g=l):cr c J (.slice a 0 g b) (mag l):=by
 subst k;have j:l.length≤d.length:=by
  have:=congrArg jD f;rw[ep]at this;omega
 cases l with
 |nil=>exact .e4 a 0 b
 |cons e l=>
  refine .row (m:=(e::l).length) (cs:=bJ (e::l)) ?_ (nh _) i (dy.refl _);rw[gj h,eY,eR,ay (by rw[gY];exact j),agv,f]
theorem an4(b:List Nat)(E:aM b)(G:0<b.length)(J:b.length<4294967295)(C:0<b.getD (b.length-1) 0)(F:Fr)(H:ag)(R:X→Fr→ag→Prop)(u:rd 1 F=mag b)(w:rd 8 F=az 0)
 (x:∀e s,(∀t,t<49→t≠8→rd t e=rd t F)→rd 8 e=az ((s:Nat):Int)→s≤31→2147483648≤b.getD (b.length-1) 0*2^s→b.getD (b.length-1) 0*2^s<4294967296→R (.exit 0) e H):
 bT (.loop Eg) R F H:=by
 have D:=E.getD (b.length-1);refine bW (fun k f n=>∃s:Nat,(∀t,t<49→t≠8→rd t f=rd t F)∧rd 8 f=az ((s:Nat):Int)∧k=32-s∧s≤31∧b.getD (b.length-1) 0*2^s<4294967296∧n=H) 32 ⟨0,fun _ _ _=>rfl,w,rfl,aa,by rw[mF,dQ];exact D,rfl⟩ ?_;rintro k f n ⟨s,j,g,rfl,B,m,rfl⟩;have o:=(j 1 aa aa).trans u;unfold Eg;have r:((b.length:Int)-1).toNat=b.length-1:=aa;have p:dO s (gq .u32)=s:=kf (aa:s≤32);have c:((b.getD (b.length-1) 0:Nat):Int)*((2^s:Nat):Int)=((b.getD (b.length-1) 0*2^s:Nat):Int):=by rw[e7]
 have q:b.getD (b.length-1) 0*2^(s+1)=b.getD (b.length-1) 0*2^s*2:=by rw[c3,cg]
 have z:2^s≤b.getD (b.length-1) 0*2^s:=by
  have:=dz (2^s) C;simpa using this
 by_cases l:b.getD (b.length-1) 0*2^s<2147483648
 ·have I:s<31:=(Nat.pow_lt_pow_iff_right (a:=2) aa).1 (eH z (show _<2^31 from l));obtain⟨v,d⟩:∃v,v=b.getD (b.length-1) 0*2^s:=⟨_,rfl⟩;rw[←d]at m l c q;simp(disch:=omega)only[go_sem,o,g,iT,r,gO,p,c,gd,cj,aQ,dt];refine⟨32-(s+1),aa,s+1,fun t h i=>?_,?_,rfl,aa,by rw[q];omega,rfl⟩
  ·simp(disch:=omega)only[cc];exact j t h i
  ·simp only[go_sem];rfl
 ·obtain⟨v,d⟩:∃v,v=b.getD (b.length-1) 0*2^s:=⟨_,rfl⟩;rw[←d]at c;have A:=m;have y:=l;rw[←d]at A y;simp(disch:=omega)only[go_sem,o,g,iT,r,gO,p,c,gd,aQ,df];refine x _ s (fun t h i=>?_) ?_ B aa m
  ·simp(disch:=omega)only[cc];exact j t h i
  ·simp only[go_sem,g]
end Go.Proofs.YtddhncjmaahodaaGreatDoor
namespace Go.aV
variable{g:Nat}{z:Nat}
theorem agz(h:4294967296^z≤g):z<(aU g).length:=by
 have:=gC (gy g);rw[fz]at this;exact(Nat.pow_lt_pow_iff_right (a:=4294967296) aa).1 (eH h this)
variable{d:List Nat}{a:Nat}
theorem lM(b:d.length=a+1):val d=val (d.take a)+4294967296^a*d.getD a 0:=by
 have h:=pB (l:=d) (i:=a) aa;rw[i_ aa]at h;simpa [val]using h
theorem yy(r:(aU a).length=z+1)(u:g≤31)(j:2147483648≤(aU a).getD z 0*2^g)(d:(aU a).getD z 0*2^g<4294967296):
 (aU (a*2^g)).length=z+1∧2147483648≤(aU (a*2^g)).getD z 0:=by
 have e:=lM r;rw[fz]at e;have l:=gC ((gy a).take z);rw[gK aa]at l;obtain⟨t,v⟩:∃t,t=(aU a).getD z 0:=⟨_,rfl⟩;obtain⟨m,p⟩:∃m,m=val ((aU a).take z):=⟨_,rfl⟩;rw[←v]at j d e;rw[←p]at l e;have s:0<2^g:=e8 aa;have A:0<4294967296^z:=e8 aa;have o:(t+1)*2^g≤4294967296:=by
  rw[two32 u]at d⊢;rw[b3 (2^g)]at d⊢;exact dz _ (rP d)
 have x:a*2^g<4294967296^(z+1):=by
  have n:a<4294967296^z*(t+1):=by rw[bU,dQ];omega
  have b:a*2^g<4294967296^z*(t+1)*2^g:=ng n s;rw[cg]at b;have c:=fc (4294967296^z) o;rw[c3];omega
 have y:4294967296^z*(t*2^g)≤a*2^g:=by
  rw[←cg];exact dz _ aa
 have D:4294967296^z*2147483648≤a*2^g:=cI (fc _ j) y;have B:=tP x;have C:z<(aU (a*2^g)).length:=agz aa;have k:(aU (a*2^g)).length=z+1:=aa;refine⟨k,?_⟩;have i:=lM k;rw[fz]at i;have q:=gC ((gy (a*2^g)).take z);rw[gK aa]at q;obtain⟨f,w⟩:∃f,f=(aU (a*2^g)).getD z 0:=⟨_,rfl⟩;rw[←w]at i⊢;refine ja fun h=>?_
 have:4294967296^z*(f+1)≤4294967296^z*2147483648:=fc _ h;rw[bU,dQ]at this;omega
variable{I:Nat}
theorem ahT{n:Nat}(o:val d=a*2^z)(p:d.length=I+n+2)(l:(aU a).length=I+n+1)(b:(aU g).length=n+1):val (d.drop (I+1))<g*2^z:=by
 have k:0<2^z:=e8 aa;have e:=oh d (I+1) aa;have c:=gC (gy a);rw[fz,l]at c;have f:=(oe g).pos (by intro h;rw[h]at b;cases b);rw[fz,b,pL]at f;have m:a*2^z<4294967296^(I+1)*(4294967296^n*2^z):=by
  rw[←cg,←fX,(aa:I+1+n=I+n+1)];exact ng c k
 have i:4294967296^(I+1)*val (d.drop (I+1))<4294967296^(I+1)*(4294967296^n*2^z):=aa;have j:=Nat.lt_of_mul_lt_mul_left i;exact ei j (dz _ f)
theorem ao5{Q:Nat}(f:0<g)(h:I+g*2^z*Q=a*2^z)(d:I<g*2^z):Q=a/g∧I/2^z=a%g:=by
 have e:0<2^z:=e8 aa;have b:a*2^z/(g*2^z)=Q:=by
  rw[←h,iy,b3 (g*2^z),iy,Nat.add_mul_div_right _ _ aa,lT d,fB]
 have c:a*2^z%(g*2^z)=I:=by
  rw[←h,Nat.add_mul_mod_self_left,jr d]
 rw[Nat.mul_div_mul_right _ _ e]at b;rw[qJ]at c;exact⟨b.symm,by rw[←c,td _ e]⟩
end Go.aV
namespace Go.Proofs.YtddhncjmaahodaaGreatDoor
open Go.aE Go.aV
variable{c:ag}{J:ag}{a:Nat}{z:Nat}{d:List Nat}
theorem ah5{g Jo f:Nat}{e:Cap}(h:c.get a=.cells (bJ d) g)(l:c.get g=.b5 Jo f)(k:f≤a)(i:J.get a=.none)(m:d.length=z):cr c J (.slice a 0 z e) (mag d):=by
 subst m;cases d with
 |nil=>exact .e4 a 0 e
 |cons b d=>
  refine .row (m:=(b::d).length) (cs:=bJ (b::d)) ?_ (nh _) i (dy.refl _);have j:c.cells? a=some (bJ (b::d)):=by
   unfold ag.cells?;rw[h];show bq (c.gh a g) _=_;rw[gi.2 (.inr ⟨Jo,f,l,k⟩)];rfl
  unfold ag.dw;rw[j];show cF (eA (bJ (b::d)) 0) (b::d).length=some (bJ (b::d));rw[eY,eR,ay (by rw[gY];exact aR _),cq (by rw[gY];exact aR _)]
variable{g:Nat}
theorem jJ:(ag.zero a).get g=.none:=ag.gf _ _
theorem agA(h:(aU a).length=1):aU a=[a]∧a<4294967296:=by
 have b:=fz a;have c:=gy a
 match e:aU a,h with
 |[d],_=>
  rw[e]at b c;simp[val]at b;subst b;exact⟨rfl,c.cons.1⟩
theorem agk(l:List Nat)(i:l.length≤2000000)(b:Nat)(H:ag)(c:H.get b=.cells [] 0)(o:b<H.next)(Q:Option (V×ag)→Prop)
 (h:∀v a,cr a (ag.zero a.next) v (mag l)→Q (some (v,a))):Q (ga 1 4 [.slice b 0 0 (.known 0),mag l] H):=by
 cases l with
 |nil=>
  exact h _ _ (.e4 b 0 _)
 |cons d l=>
  have j:j_ (mag (d::l))=some (l.length+1):=rfl;have f:ec H 1 (l.length+1) (mag (d::l))=some (bJ (d::l)):=by
   show cF (bJ (d::l)) (dW (l.length+1) 1)=_;rw[eR,ay (by rw[gY];show(l.length+1)*1≤l.length+1;omega),cq (by rw[gY];show l.length+1≤(l.length+1)*1;omega)]
  have e:ga 1 4 [.slice b 0 0 (.known 0),mag (d::l)] H=l7 H 1 (l.length+1) (bJ (d::l)):=by
   show av (j_ (mag (d::l))) (fun n=>av (ec H 1 n (mag (d::l))) fun k=>kL 1 4 (.slice b 0 0 (.known 0)) n k H)=_;rw[j];show av (ec H 1 (l.length+1) (mag (d::l))) _=_;rw[f];show bq (ju (0+(l.length+1)) 4) (Bool.casesOn (motive:=fun _=>Option (V×ag)) (b8 (0+(l.length+1)) 0) (av (H.dw b 0 (0*1)) fun m=>l7 H 1 (0+(l.length+1)) (ez m (bJ (d::l)))) (av (H.e5 b (0+0*1) (bJ (d::l))) fun H=>some (V.slice b 0 (0+(l.length+1)) (.known 0),H)))=_;have g:ju (0+(l.length+1)) 4=true:=by
    simp at i;unfold ju;rw[jf aa,jf (show dW (0+(l.length+1)) 4≤1099511627776 from by show(0+(l.length+1))*4≤_;omega)];rfl
   rw[g,show b8 (0+(l.length+1)) 0=false from by rw[fB];rfl,gj c];simp only[jE,eY,BR,yz,B4,BL,fB]
  rw[e];refine h _ _ (ah5 (g:=H.next+1) (Jo:=H.next) (f:=H.next) ?_ ?_ (aR _) jJ aJ)
  ·rw[ag.bE,ag.bE];rw[au (by show¬(H.next+1=H.next);omega),ay rfl]
  ·rw[ag.bE,ay (show(H.push (.cells (bJ (d::l)) (Nat.succ H.next))).next=H.next+1 from rfl)]
set_option maxHeartbeats 4000000 in
theorem YR(x y:Nat)(F:0<y)(dk:(aU x).length≤2000000)(du:(aU y).length≤2000000):bA 146 [mag (aU x),mag (aU y)] (.aK [mag (aU (x/y)),mag (aU (x%y))]):=by
 refine o6 (R:=fun v=>v=_) (.cons (jt _) (.cons (jt _) .nil)) ?_;refine bg aku ?_
 have o:∀(a b:V) (H:ag),cr H (ag.zero H.next) a (mag (aU (x/y)))→cr H (ag.zero H.next) b (mag (aU (x%y)))→∃v,cr H (ag.zero H.next) (.aK [a,b]) v∧bZ v∧v=.aK [mag (aU (x/y)),mag (aU (x%y))]:=fun a b H w h2=>
  ⟨_,.aK (.cons w (.cons h2 .nil)),.aK (.cons (jt _) (.cons (jt _) .nil)),rfl⟩
 have Q:=Yv (aU x) (aU y) (gy _) (gy _) (oe _) (oe _) aa aa;rw[fz,fz]at Q;have ly:0<(aU y).length:=(qT y).2 aa;unfold NY;simp only[go_sem];refine use Q ?_;by_cases d:x<y
 ·have hc:mI x y<0:=by unfold mI;rw[ay d];decide
  simp(disch:=assumption)only[go_sem,dt];refine agk (aU x) dk 5 _ ?_ ?_ (fun r=>gT _ _ _ r) fun v k hv=>?_
  ·simp only[go_sem]
  ·exact lU 5
  simp only[go_sem];rw[lT d,jr d,ir]at o;rw[lT d,jr d,ir];exact o _ _ _ .fQ hv
 have bs:y≤x:=aa;have hc:¬mI x y<0:=by
  unfold mI;rw[au d];split<;>omega
 simp(disch:=assumption)only[go_sem,df];by_cases w:(aU y).length=1
 ·obtain⟨O,ap⟩:=agA w;have R:=acI (aU x) y (gy _) ⟨F,ap⟩ aa;rw[fz]at R;have bv:dY none 1 [mag [y],ai 0]=some (.val (.dm [V.int .u32 (y:Int)] 0)):=iT (l:=[y]) ⟨aj,aJ⟩;simp(disch:=omega)only[go_sem,O,bv,gm,Int.natCast_one,decide_true];rw[←O];refine use R ?_;have hr:x%y<4294967296:=oG (eK _ F) ap;simp only[go_sem];refine iL (b:=5) (cs:=bJ [x%y]) (args2:=[mag [x%y]]) (qs [x%y] aJ) ?_ ⟨0,_,_,dH.2 rfl⟩ (.cons (p4 (l:=[x%y]) ?_ ?_ rfl) .nil) ?_
  ·simp only[go_sem];rfl
  ·simp only[go_sem];rfl
  ·rw[ag.a_,ay rfl]
  simp only[go_sem];have et:trim [x%y]=aU (x%y):=by
   rw[og (.mk hr aM.nil)];simp[val]
  rw[et];exact o _ _ _ (.same _) (.same _)
 ·obtain⟨n,X⟩:∃n,(aU y).length=n+2:=⟨(aU y).length-2,aa⟩;obtain⟨m,C⟩:∃m,(aU x).length=m+(n+1)+1:=by
   have:=BM bs;exact⟨(aU x).length-(n+2),aa⟩
  have ht:0<(aU y).getD ((aU y).length-1) 0:=jP (KF aa);simp(disch:=omega)only[go_sem,df];refine an4 (aU y) (gy _) ly aa ht _ _ _ ?_ ?_ ?_
  iterate 2 simp only[go_sem]
  intro G s z u f Z ab;have f0:rd 0 G=mag (aU x):=by rw[z 0 aa aa];simp only[go_sem]
  have f1:rd 1 G=mag (aU y):=by rw[z 1 aa aa];simp only[go_sem]
  clear z;rw[(aa:(aU y).length-1=n+1)]at Z ab;obtain⟨E,c0⟩:=yy X f Z ab;rw[fu];simp only[go_sem,f1,u];refine(acp (aU y) s (gy _) f aa _).mono ?_;rintro _ k ⟨rfl,ce,c,da,b',ae,-,a'⟩;have S:k.get 5=.cells (bJ c) 0:=(a' 5).trans (ay rfl);rw[fz]at ae;have a1:trim c=aU (y*2^s):=by rw[og da,ae]
  simp only[go_sem];refine iL (b:=5) (cs:=bJ c) (args2:=[mag c]) (qs c aa) S ⟨0,_,_,dH.2 rfl⟩ (.cons (p4 (l:=c) S ?_ b') .nil) ?_
  ·rw[ag.a_,ay rfl]
  rw[a1];simp only[go_sem,f0,u];refine(acp (aU x) s (gy _) f aa _).mono ?_;rintro _ J ⟨rfl,Y,N,c',B,D,-,P⟩;have cf:k.next=6:=ce
  have ac:(k.set 5 .none).next=6:=by rw[iI];exact cf
  rw[ac]at P Y;have bj:J.get 6=.cells (bJ N) 0:=by rw[P,ay rfl]
  rw[fz]at D;rw[C]at B;have im:((m+(n+1)+1+1:Nat):Int)-((n+1+1:Nat):Int)-1=(m:Int):=aa;rw[ac,C];simp(disch:=omega)only[go_sem,E,aQ,im,iH,uI];have q:J.next=7:=Y
  refine agK (aU (y*2^s)) (n+1+1) m 6 7 (m+(n+1)+1+1) (x*2^s) (gy _) E aa aa aa (by rw[pL];exact c0) aj N c' B D ?_ _ _ _ ?_ ?_ ?_ ?_ ?_ ?_ ?_ ?_
  ·rw[fz];exact ahT D B C X
  iterate 5 simp only[go_sem,q]
  ·rw[ag.bE,au (by rw[q];decide)];exact bj
  ·rw[ag.bE,ay q]
  intro j H3 L i g b2 ar dd cb al am T ch dp;rw[fz]at al am;have a7:rd 8 j=az (s:Int):=by rw[g 8 aa];simp only[go_sem,u]
  have a4:rd 10 j=.slice 6 0 (m+(n+1)+1+1) (.known (m+(n+1)+1+1)):=by rw[g 10 aa];simp only[go_sem]
  have a5:rd 11 j=ai ((n+1+1:Nat):Int):=by rw[g 11 aa];simp only[go_sem]
  have a6:rd 13 j=.slice 7 0 (m+1) (.known (m+1)):=by
   rw[g 13 aa];simp only[go_sem,q]
  clear g;rw[fu];obtain⟨hQ,hR⟩:=ao5 F al am;have b0:((n+1+1:Nat):Int).toNat=n+1+1:=bN _;have b1:(L.take (n+1+1)).length=n+1+1:=by rw[ep,b2];omega
  simp(disch:=omega)only[go_sem,a4,a5,sR,b0];have ad:=arh (L.take (n+1+1)) (L.drop (n+1+1)) 6 (m+(n+1)+1+1) aa aa H3 (by rw[oC];exact T);rw[b1]at ad;refine ad.mono ?_;rintro _ _ ⟨rfl,rfl⟩;obtain⟨l,h⟩:∃l,l=trim (L.take (n+1+1)):=⟨_,rfl⟩;rw[←h];have ca:=ac2 (L.take (n+1+1));rw[←h]at ca;have cd:l=L.take l.length:=by
   have:=ac3 (L.take (n+1+1));rw[←h,List.take_take]at this;rw[(aa:min l.length (n+1+1)=l.length)]at this;exact this
  have cs:val l=val L:=by
   rw[h,w8];refine(qt (zq ?_)).symm;have:=gC (gy (y*2^s));rw[fz,E]at this;omega
  simp only[go_sem];refine aqe l L s 6 (m+(n+1)+1+1) ar (fun p t=>?_) f aa aa _ _ _ ?_ ?_ ?_ T ?_
  ·rw[cd];simp only[c_];rw[u9 t]
  iterate 3 simp only[go_sem,a7]
  intro I K M A dl ds bb ba dq bo;have qX:rd 13 I=.slice 7 0 (m+1) (.known (m+1)):=by rw[A 13 aa aa];simp only[go_sem,a6]
  have a8:rd 25 I=.slice 6 0 l.length (.known (m+(n+1)+1+1)):=by rw[A 25 aa aa];simp only[go_sem]
  clear A;have bc:M.take l.length=shr s l:=by
   refine List.ext_getElem? fun p=>?_
   by_cases t:p<l.length
   ·have e:=bb p t;simp only[c_]at e;rw[u9 t];rw[cH aa,cH (by rw[rA];omega)]at e⊢;exact congrArg some e
   ·rw[m9 (by rw[ep];omega),m9 (by rw[rA];omega)]
  have W:K.get 7=.cells (bJ i) 0:=by rw[ba 7 aj];exact ch
  rw[fu];simp only[go_sem,qX];refine iL (b:=7) (cs:=bJ i) (args2:=[mag i]) (qs i aa) W ⟨0,_,_,dH.2 rfl⟩ (.cons (p4 (l:=i) W (by rw[ag.a_,ay rfl]) cb) .nil) ?_;simp only[go_sem,a8];have U:(K.set 7 .none).get 6=.cells (bJ M) 0:=by rw[ag.a_,au aj];exact bo
  refine iL (b:=6) (cs:=bJ M) (args2:=[mag (shr s l)]) (qs (shr s l) (by rw[rA];omega)) U ⟨0,_,_,dH.2 rfl⟩ (.cons (ah7 (l:=shr s l) U (by rw[ag.a_,ay rfl]) (rA s l) bc) .nil) ?_;simp only[go_sem];have db:aM l:=by rw[h];exact wZ (ar.take _)
  rw[og dd,og (uL f db),wO f,cs,hQ,hR];exact o _ _ _ (.same _) (.same _)
theorem aqZ(x y:Int):(if(!(decide (x<0)==decide (y<0)))=true then-((x.natAbs/y.natAbs:Nat):Int)else((x.natAbs/y.natAbs:Nat):Int))=x.tdiv y:=by
 cases x with
 |ofNat a=>cases y with
  |ofNat b=>
   have c:¬(Int.ofNat a<0):=aJ;have d:¬(Int.ofNat b<0):=aJ;simp only[c,d,decide_false,Me,JC,kj,↓reduceIte];rfl
  |negSucc b=>
   have c:¬(Int.ofNat a<0):=aJ;have d:(Int.negSucc b<0):=Int.negSucc_lt_zero b;simp only[c,d,decide_false,decide_true,Mf,nf,↓reduceIte];rfl
 |negSucc a=>cases y with
  |ofNat b=>
   have c:(Int.negSucc a<0):=Int.negSucc_lt_zero a;have d:¬(Int.ofNat b<0):=aJ;simp only[c,d,decide_false,decide_true,Mg,nf,↓reduceIte];rfl
  |negSucc b=>
   have c:(Int.negSucc a<0):=Int.negSucc_lt_zero a;have d:(Int.negSucc b<0):=Int.negSucc_lt_zero b;simp only[c,d,decide_true,Mh,JC,kj,↓reduceIte];rfl
theorem aq6(x y:Int):(if decide (x<0)=true then-((x.natAbs%y.natAbs:Nat):Int)else((x.natAbs%y.natAbs:Nat):Int))=x.tmod y:=by
 cases x with
 |ofNat a=>
  have b:¬(Int.ofNat a<0):=aJ;simp only[b,decide_false,kj,↓reduceIte];cases y<;>rfl
 |negSucc a=>
  have b:(Int.negSucc a<0):=Int.negSucc_lt_zero a;simp only[b,decide_true,↓reduceIte];cases y<;>rfl
theorem abF(x y:Int)(d:y≠0)(b:dI x.natAbs)(c:dI y.natAbs):bA 85 [cB x,cB y] (.aK [cB (x.tdiv y),cB (x.tmod y)]):=by
 have e:=b.len;have f:=c.len;refine cT (.cons (iR _) (.cons (iR _) .nil)) (.aK (.cons (iR _) (.cons (iR _) .nil))) (bg amq ?_);have a:=YR x.natAbs y.natAbs aa aa aa;simp only[go_sem,XQ,cB,dJ];refine use a ?_;simp only[go_sem];refine use (o3 _ _) ?_;simp only[go_sem,true_and];refine use (o3 _ _) ?_;simp only[go_sem,cB,dJ];rw[aqZ,aq6]
theorem aif(x y:Int)(q:dI x.natAbs)(r:dI y.natAbs):bA 83 [cB x,cB y] (cB (cx x.natAbs y.natAbs)):=by
 have s:=q.len;have t:=r.len;refine cT (.cons (iR _) (.cons (iR _) .nil)) (iR _) (bg amn ?_);simp only[go_sem,XN,cB,dJ,true_and]
 refine bW (fun k c f=>∃a b:Nat,rd 5 c=mag (aU a)∧rd 6 c=mag (aU b)∧rd 4 c=.ptr 7 0∧k=b∧cx a b=cx x.natAbs y.natAbs∧(aU a).length≤2000000∧(aU b).length≤2000000∧f.get 7=.cells [aq,.ak] 0) y.natAbs
  ⟨x.natAbs,y.natAbs,?_,?_,?_,rfl,rfl,aa,aa,?_⟩ ?_
 iterate 4 simp only[go_sem]
 rintro k c f ⟨a,b,h,d,g,rfl,m,p,e,j⟩;unfold XO;by_cases l:k=0
 ·subst l;have i:(aU 0).length=0:=by rw[ir];rfl
  simp(disch:=omega)only[go_sem,d,i,df];simp only[go_sem,h];refine use (o3 _ _) ?_;simp only[go_sem,cB,dJ,g,j];rw[←m,Nat.gcd_zero_right];rfl
 ·have i:0<(aU k).length:=(qT k).2 l;have o:=YR a k aa p e;simp(disch:=omega)only[go_sem,h,d,dt];refine use o ?_;simp only[go_sem,d];have n:a%k<k:=eK _ aa;refine⟨a%k,n,k,a%k,?_,?_,?_,rfl,?_,e,cI (BM (hD n)) e,j⟩
  iterate 3 simp only[go_sem,g]
  ·rw[←m,oF a k,Nat.gcd_rec k a,oF]
def tE:ah:=aB [af 23 3,ao 2 23]
def tF:ah:=bm [aA 12 2 1,aA 13 1 12,aC 14 13,aY 15 14,bH 16 .gtr 15 0] 16 (.aH [af 17 3,aA 18 2 1,aL 19 2 18,bk 20 68 19,ex 21 (bs .add (kc (.str [47])) (rd 20)),ex 22 (bs .add (rd 17) (rd 21)),ao 3 22]) tE
def tG:ah:=bm [aA 7 0 1,aA 8 0 7,aC 9 8] 9 (.aH [af 10 3,ex 11 (bs .add (kc (.str [45])) (rd 10)),ao 3 11]) tF
def FC:ah:=an [aA 4 0 1,aL 5 2 4,bk 6 68 5,ao 3 6] tG
def Fq:ah:=an [b7 1 0,aP 2 (.str [])] FC
theorem aag:aZ Tryz.f22 22 Fq [.tmp 2]:=bh
def Vn:ah:=aB [aL 34 2 2,aL 35 2 3,ex 36 (cD [(0,2),(2,2)] [aq,.ak,aq,.ak] [(rd 34),(rd 35)]),aF 4 4 36]
def GY:ah:=bm [aL 30 2 3,bk 31 84 30,bH 32 .eql 31 1] 32 (.aH [ex 33 (cD [] [aq,.ak] []),aF 2 3 33]) Vn
def Vo:ah:=bm [aL 15 2 5,bk 16 84 15,bH 17 .gtr 16 1] 17 (an [aL 19 2 2,aL 20 2 5,bf 21 85 19 20,af 18 21,bn 22 0 18,bn 23 1 18,aF 2 2 22] (.aH [aL 25 2 3,aL 26 2 5,bf 27 85 25 26,af 24 27,bn 28 0 24,bn 29 1 24,aF 2 3 28])) GY
def GZ:ah:=an [aL 12 2 2,aL 13 2 3,bf 14 83 12 13,ex 5 (alloc [aq,.ak]),aF 2 5 14] Vo
def G0:ah:=bm [aA 6 0 3,aC 7 6] 7 (.aH [aL 8 2 2,aL 10 2 3,bk 9 82 8,cQ 10 2 3,bk 11 82 10,aF 2 2 9,aF 2 3 11]) GZ
def GN:ah:=an [b7 2 0,b7 3 1,ex 4 (alloc [aq,.ak,aq,.ak])] G0
theorem alP:aZ Tryz.f35 35 GN [.cell 4 true 4]:=bh
def Hp:ah:=aB [aA 23 0 2,aL 24 2 23,aL 25 4 3,aA 28 0 3,aL 29 2 28,aL 30 4 2,aL 34 4 2,aL 36 4 3,bk 26 90 25,cQ 24 2 23,cQ 29 2 28,cQ 30 4 2,cQ 34 4 2,cQ 36 4 3,bf 27 89 24 26,cQ 29 2 28,cQ 30 4 2,cQ 34 4 2,cQ 36 4 3,bk 31 90 30,cQ 29 2 28,cQ 34 4 2,cQ 36 4 3,bf 32 89 29 31,cQ 34 4 2,cQ 36 4 3,bf 33 88 27 32,cQ 34 4 2,cQ 36 4 3,bk 35 90 34,cQ 36 4 3,bk 37 90 36,bf 38 89 35 37,bf 39 35 33 38,aF 4 4 39]
def AP:ah:=bm [aA 5 2 2,aA 6 1 5,aC 7 6,aY 8 7,bH 9 .eql 8 0,af 10 9,c6 10 true 11 2 3,c6 10 true 12 1 11,c9 10 true 13 12,aN 10 true 14 (fF (rd 13)),ef 10 true 15 .eql 14 0,dM 16 10 15] 16 (aB [aA 17 0 2,aL 18 2 17,aA 19 0 3,aL 20 2 19,bf 21 88 18 20,ex 22 (cD [(0,2)] [aq,.ak,aq,.ak] [(rd 21)]),aF 4 4 22]) Hp
def AO:ah:=an [b7 2 0,b7 3 1,ex 4 (alloc [aq,.ak,aq,.ak])] AP
theorem alZ:aZ Tryz.f37 37 AO [.cell 4 true 4]:=bh
def Hq:ah:=aB [aA 23 0 2,aL 24 2 23,aA 25 0 3,aL 26 2 25,aL 28 4 2,aL 30 4 3,bf 27 89 24 26,cQ 28 4 2,cQ 30 4 3,bk 29 90 28,cQ 30 4 3,bk 31 90 30,bf 32 89 29 31,bf 33 35 27 32,aF 4 4 33]
def AR:ah:=bm [aA 5 2 2,aA 6 1 5,aC 7 6,aY 8 7,bH 9 .eql 8 0,af 10 9,c6 10 true 11 2 3,c6 10 true 12 1 11,c9 10 true 13 12,aN 10 true 14 (fF (rd 13)),ef 10 true 15 .eql 14 0,dM 16 10 15] 16 (aB [aA 17 0 2,aL 18 2 17,aA 19 0 3,aL 20 2 19,bf 21 89 18 20,ex 22 (cD [(0,2)] [aq,.ak,aq,.ak] [(rd 21)]),aF 4 4 22]) Hq
def AQ:ah:=an [b7 2 0,b7 3 1,ex 4 (alloc [aq,.ak,aq,.ak])] AR
theorem al0:aZ Tryz.f38 38 AQ [.cell 4 true 4]:=bh
def VM:ah:=aB [aL 5 4 2,aL 6 4 3,bk 7 63 6,cQ 5 4 2,bf 8 37 5 7,aF 4 4 8]
def VL:ah:=an [b7 2 0,b7 3 1,ex 4 (alloc [aq,.ak,aq,.ak])] VM
theorem al1:aZ Tryz.f39 39 VL [.cell 4 true 4]:=bh
def VZ:ah:=aB [aL 5 4 2,aL 6 4 3,bf 7 39 5 6,bk 8 91 7,ao 4 8]
def VY:ah:=an [b7 2 0,b7 3 1,bI 4 0] VZ
theorem al2:aZ Tryz.f40 40 VY [.tmp 4]:=bh
def V5:ah:=.aH [af 31 7,b9 32 31 1,ao 7 32]
def Hy:ah:=.seq (.block 1 (an [af 33 4,af 34 7,ex 35 (g9 (rd 33) (rd 34)),bR 36 .eql 35 .u8 47] (bl 36 (an [af 37 7,ao 6 37] (.exit 0)) .skip))) V5
def Hz:ah:=.seq (an [af 27 7,af 28 4,ex 29 (iF (rd 28)),cw 30 27 29] (bl 30 .skip (.exit 0))) Hy
def HA:ah:=aB [aL 77 4 10,aL 78 4 10,af 80 0,bk 79 22 78,cQ 77 4 10,ex 81 (bs .eql (rd 79) (rd 80)),aF 4 2 77,ao 3 81]
def HB:ah:=bm [af 53 6,af 54 4,ex 55 (iF (rd 54)),cw 56 53 55] 56 (an [af 58 4,af 59 6,b9 60 59 1,ex 61 (lJ true false false [(rd 58),(rd 60)]),bk 62 95 61,af 57 62,bn 63 0 57,bn 64 1 57,ex 11 (alloc [aq,.ak]),aF 2 11 63,ao 12 64] (bm [af 65 12,fL 66 65,af 67 66,jY 67 false 68 2 11,aN 67 false 69 (bF 96 [(rd 68)]),ef 67 false 70 .eql 69 0,en 71 67 70] 71 (aB [ex 72 (cD [] [aq,.ak,aq,.ak] []),aF 4 2 72,aP 3 aq]) (.aH [aA 73 0 10,aL 74 2 73,aL 75 2 11,bf 76 35 74 75,aF 4 10 76]))) HA
def HC:ah:=an [af 48 5,aA 49 1 8,aC 50 49,bf 51 86 48 50,ex 52 (cD [(0,2)] [aq,.ak,aq,.ak] [(rd 51)]),ex 10 (alloc [aq,.ak,aq,.ak]),aF 4 10 52] HB
def HD:ah:=bm [af 45 9,fL 46 45] 46 (aB [ex 47 (cD [] [aq,.ak,aq,.ak] []),aF 4 2 47,aP 3 aq]) HC
def V6:ah:=an [af 39 4,af 40 6,ex 41 (lJ false true false [(rd 39),(rd 40)]),bk 42 95 41,af 38 42,bn 43 0 38,bn 44 1 38,ex 8 (alloc [aq,.ak]),aF 2 8 43,ao 9 44] HD
def V7:ah:=.seq (an [bI 7 0] (.block 0 (.loop Hz))) V6
def HE:ah:=an [af 25 4,ex 26 (iF (rd 25)),ao 6 26] V7
def AV:ah:=bm [af 22 5] 22 (.aH [af 23 4,ex 24 (lJ true false false [(rd 23),(kc (ai 1))]),ao 4 24]) HE
def AW:ah:=an [af 14 4,ex 15 (iF (rd 14)),bH 16 .gtr 15 0,af 17 16,bG 17 true 18 4,aN 17 true 19 (g9 (rd 18) (kc (ai 0))),aN 17 true 20 (bi .eql (rd 19) (kc (.int .u8 45))),dM 21 17 20,ao 5 21] AV
def AX:ah:=an [af 13 0,ao 4 13] AW
def AU:ah:=an [ex 2 (alloc [aq,.ak,aq,.ak]),aP 3 aq] AX
theorem al4:aZ Tryz.f44 44 AU [.cell 2 true 4,.tmp 3]:=bh
def Xi:ah:=aB [aA 3 0 1,aL 4 2 3,aA 6 2 1,aL 7 2 6,bk 5 82 4,cQ 7 2 6,ex 8 (cD [(0,2),(2,2)] [aq,.ak,aq,.ak] [(rd 5),(rd 7)]),aF 4 2 8]
def Xh:ah:=an [b7 1 0,ex 2 (alloc [aq,.ak,aq,.ak])] Xi
theorem amg:aZ Tryz.f63 63 Xh [.cell 2 true 4]:=bh
def Xm:ah:=aB [af 3 0,bk 4 36 3,ex 5 (cD [(0,2)] [aq,.ak,aq,.ak] [(rd 4)]),aF 4 2 5]
def Xl:ah:=an [ex 2 (alloc [aq,.ak,aq,.ak])] Xm
theorem ami:aZ Tryz.f65 65 Xl [.cell 2 true 4]:=bh
def Xu:ah:=.aH [af 29 5,ao 4 29]
def Xv:ah:=an [af 25 3,af 26 6,ex 27 (cW 1 [(0,1)] [(.int .u32 0)] [(rd 26)]),eo 28 1 4 25 27,ao 3 28] Xu
def XC:ah:=.block 1 (an [af 21 4,ex 22 (bF 118 [(rd 21),(kc (.int .u32 1000000000))]),af 20 22,bn 23 0 20,bn 24 1 20,ao 5 23,ao 6 24] Xv)
def HT:ah:=.seq (an [af 17 4,aY 18 17,bH 19 .gtr 18 0] (bl 19 .skip (.exit 0))) XC
def AY:ah:=.aH [af 39 9,bR 40 .quo 39 .u32 10,ao 9 40]
def AZ:ah:=.seq (.block 5 (an [af 41 3,af 42 8,aX 43 1 41 42,aC 44 43,af 45 9,bD 46 .quo 44 45,bR 47 .rem 46 .u32 10,ex 48 (bi .add (kc (.int .u32 48)) (rd 47)),c7 49 .u8 48,ao 10 49] (an [af 50 7,aY 51 50,bH 52 .gtr 51 0,af 53 52,bG 53 false 54 10,aN 53 false 55 (bi .neq (rd 54) (kc (.int .u8 48))),en 56 53 55] (bl 56 (.aH [af 57 7,af 58 10,ex 59 (cW 1 [(0,1)] [(.int .u8 0)] [(rd 58)]),eo 60 1 1 57 59,ao 7 60]) .skip)))) AY
def HU:ah:=.seq (an [af 37 9,bR 38 .gtr 37 .u32 0] (bl 38 .skip (.exit 4))) AZ
def XD:ah:=.aH [af 35 8,cL 36 35 1,ao 8 36]
def XE:ah:=.seq (.block 3 (an [aP 9 (.int .u32 100000000)] (.block 4 (.loop HU)))) XD
def HV:ah:=.seq (an [af 33 8,bH 34 .geq 33 0] (bl 34 .skip (.exit 2))) XE
def Xw:ah:=aB [af 61 7,ex 62 (tL (rd 61)),ao 2 62]
def Xx:ah:=.seq (an [af 30 3,aY 31 30,cL 32 31 1,ao 8 32] (.block 2 (.loop HV))) Xw
def Xy:ah:=an [aP 7 .ak] Xx
def Xz:ah:=.seq (.block 0 (.loop HT)) Xy
def XA:ah:=an [aA 15 1 1,aC 16 15,ao 4 16] Xz
def XB:ah:=an [aP 3 .ak] XA
def HS:ah:=bm [aA 11 1 1,aC 12 11,aY 13 12,bH 14 .eql 13 0] 14 (aB [aP 2 (.str [48])]) XB
def HR:ah:=an [b7 1 0,aP 2 (.str [])] HS
theorem amk:aZ Tryz.f68 68 HR [.tmp 2]:=bh
def XV:ah:=.aH [af 21 8,b9 22 21 1,ao 8 22]
def A3:ah:=.seq (.block 3 (bm [af 23 0,af 24 5,ex 25 (g9 (rd 23) (rd 24)),bR 26 .lss 25 .u8 48,af 27 26,bG 27 false 28 0,bG 27 false 29 5,aN 27 false 30 (g9 (rd 28) (rd 29)),aN 27 false 31 (bi .gtr (rd 30) (kc (.int .u8 57))),en 32 27 31] 32 (aB [ex 33 (cD [] [aq,.ak] []),aF 2 2 33,aP 3 aq]) (an [af 34 6,bR 35 .mul 34 .u32 10,af 36 0,af 37 5,ex 38 (g9 (rd 36) (rd 37)),bR 39 .sub 38 .u8 48,c7 40 .u32 39,cU 41 35 40,af 42 7,bR 43 .mul 42 .u32 10,ao 6 41,ao 7 43] (.aH [af 44 5,b9 45 44 1,ao 5 45])))) XV
def H7:ah:=.seq (an [af 13 8,bH 14 .lss 13 9,af 15 14,bG 15 true 16 5,bG 15 true 17 0,aN 15 true 18 (iF (rd 17)),aN 15 true 19 (bi .lss (rd 16) (rd 18)),dM 20 15 19] (bl 20 .skip (.exit 2))) A3
def XW:ah:=.aH [af 46 4,af 47 7,ex 48 (cW 1 [(0,1)] [(.int .u32 0)] [(rd 47)]),bf 49 150 46 48,af 50 6,ex 51 (cW 1 [(0,1)] [(.int .u32 0)] [(rd 50)]),bk 52 87 51,bf 53 147 49 52,ao 4 53]
def XX:ah:=.seq (an [bI 8 0] (.block 2 (.loop H7))) XW
def XY:ah:=.block 1 (an [aP 6 (.int .u32 0),aP 7 (.int .u32 1)] XX)
def XZ:ah:=.seq (an [af 9 5,af 10 0,ex 11 (iF (rd 10)),cw 12 9 11] (bl 12 .skip (.exit 0))) XY
def X0:ah:=aB [af 54 4,ex 55 (bF 86 [(kc aq),(rd 54)]),af 56 0,ex 57 (bs .neq (rd 56) (kc (.str []))),aF 2 2 55,ao 3 57]
def X1:ah:=.seq (an [bI 5 0] (.block 0 (.loop XZ))) X0
def X2:ah:=an [aP 4 .ak] X1
def XU:ah:=an [ex 2 (alloc [aq,.ak]),aP 3 aq] X2
theorem amv:aZ Tryz.f95 95 XU [.cell 2 true 2,.tmp 3]:=bh
end Go.Proofs.YtddhncjmaahodaaGreatDoor
namespace Go.aV
def dd(q:Rat):Nat:=if q.den=1 then 0 else q.den
variable{a:Nat}
theorem wq(n:Int)(b:a≠0):(mkRat n a).num=n.tdiv (cx n.natAbs a:Nat):=by
 rw[←Rat.normalize_eq_mkRat b,Rat.normalize_eq];exact(Int.tdiv_eq_ediv_of_dvd (Int.ofNat_dvd_left.2 (Nat.gcd_dvd_left _ _))).symm
theorem BT(n:Int)(b:a≠0):(mkRat n a).den=a/cx n.natAbs a:=by
 rw[←Rat.normalize_eq_mkRat b,Rat.normalize_eq]
theorem mk_one{n:Int}{m:Nat}(a:m≠0)(b:cx n.natAbs m=1):(mkRat n m).num=n∧(mkRat n m).den=m:=by
 rw[wq _ a,BT _ a,b];exact⟨Int.tdiv_one _,nM _⟩
theorem vm(p q:Rat):p+q=mkRat (p.num*q.den+q.num*p.den) (p.den*q.den):=by
 rw[Rat.add_def,Rat.normalize_eq_mkRat]
theorem BY(p q:Rat):p*q=mkRat (p.num*q.num) (p.den*q.den):=by
 rw[Rat.mul_def,Rat.normalize_eq_mkRat]
variable{y:Rat}
theorem add_one{q:Rat}(a:y.den=1)(b:q.den=1):(y+q).num=y.num+q.num∧(y+q).den=1:=by
 rw[vm,a,b];have:=mk_one (n:=y.num*((1:Nat):Int)+q.num*((1:Nat):Int)) (m:=1*1) aj aJ;simpa using this
theorem mul_one{q:Rat}(a:y.den=1)(b:q.den=1):(y*q).num=y.num*q.num∧(y*q).den=1:=by
 rw[BY,a,b];have:=mk_one (n:=y.num*q.num) (m:=1*1) aj aJ;simpa using this
structure bB (k:Nat) (q:Rat):Prop where
 num:q.num.natAbs<2^k
 den:q.den<2^k
theorem mk_le(n:Int){m:Nat}(a:m≠0):(mkRat n m).num.natAbs≤n.natAbs∧(mkRat n m).den≤m:=by
 rw[wq _ a,BT _ a,Int.natAbs_tdiv];exact⟨g7 _ _,g7 _ _⟩
variable{g:Nat}{z:Nat}{I:Nat}
theorem sA(b:z<2^a)(c:I<2^g):z*I<2^(a+g):=by
 rw[fX];rcases qH I with h|h
 ·rw[h,fe];exact Nat.mul_pos (e8 aj) (e8 aj)
 ·exact ei (ng b h) (fc _ (hD c))
theorem B7{n a m b c k:Nat}(h:n<a^m)(d:a≤b^c)(f:c*m≤k)(e:0<b):n<b^k:=
 ei h (cI (vh d m) (by rw[←Nat.pow_mul];exact fN e f))
theorem aoF{n a m b c k:Nat}(h:n<b^k)(f:k≤c*m)(d:b^c≤a)(e:0<b):n<a^m:=
 ei h (cI (fN e f) (by rw[Nat.pow_mul];exact vh d m))
theorem abC{k:Nat}(h:0<k):bB k 0:=⟨Nat.two_pow_pos k,Nat.one_lt_two_pow aa⟩
theorem bB.mono{a:Nat}(h:bB a y)(b:a≤g):bB g y:=
 ⟨ei h.num (fN aj b),ei h.den (fN aj b)⟩
theorem bB.add{q:Rat}(b:bB a y)(c:bB g q):bB (a+g+1) (y+q):=by
 have f:y.den*q.den≠0:=tf y.den_nz q.den_nz;rw[vm];obtain⟨h,i⟩:=mk_le (y.num*q.den+q.num*y.den) f;have j:=sA b.num c.den;have d:=sA c.num b.den;have k:=sA b.den c.den;have l:(y.num*(q.den:Int)+q.num*(y.den:Int)).natAbs≤y.num.natAbs*q.den+q.num.natAbs*y.den:=by
  refine cI (Int.natAbs_add_le _ _) ?_;rw[nH,nH];exact aR _
 have e:2^(g+a)=2^(a+g):=by rw[iy]
 rw[e]at d;refine⟨?_,?_⟩
 ·rw[c3];omega
 ·rw[c3];omega
theorem bB.mul{q:Rat}(c:bB a y)(d:bB g q):bB (a+g) (y*q):=by
 have i:y.den*q.den≠0:=tf y.den_nz q.den_nz;rw[BY];obtain⟨b,e⟩:=mk_le (y.num*q.num) i;have f:=sA c.num d.num;have h:=sA c.den d.den;rw[nH]at b;exact⟨eH b f,eH e h⟩
theorem bB.neg(b:bB a y):bB a (-y):=by
 refine⟨?_,?_⟩
 ·rw[Rat.neg_num,lO];exact b.num
 ·rw[Rat.neg_den];exact b.den
theorem bB.sub{q:Rat}(b:bB a y)(c:bB g q):bB (a+g+1) (y-q):=by
 rw[Rat.sub_eq_add_neg];exact b.add c.neg
variable{r:Int}
theorem bB.ofInt(h:r.natAbs<2^a)(b:0<a):bB a (r:Rat):=
 ⟨h,by show 1<2^a;exact Nat.one_lt_two_pow aa⟩
end Go.aV
namespace Go.Proofs.YtddhncjmaahodaaGreatDoor
open Go.aE Go.aV
def bY(q:Rat):List V:=[.bool (decide (q.num<0)),mag (aU q.num.natAbs),aq,mag (aU (dd q))]
def cJ(q:Rat):V:=.agg (bY q)
theorem x4(q:Rat):cM (bY q):=.cons (.bool _) (.cons (jt _) (.cons (.bool _) (.cons (jt _) .nil)))
theorem iu(q:Rat):bZ (cJ q):=.agg (x4 q)
variable{a:Nat}
theorem dI.of{k:Nat}(h:a<2^k)(b:k≤30000000):dI a:=by
 exact @Go.aV.aoF a 4294967296 1000000 2 32 k h (cI b aj) aj aj
variable{y:Rat}
theorem lZ(h:y.den=1):dd y=0:=ay h
theorem jh{q:Rat}(h:q.den≠1):dd q=q.den:=au h
theorem Jv(n:Nat):cB (n:Int)=.agg [aq,mag (aU n)]:=by
 unfold cB dJ;rw[show decide (((n:Nat):Int)<0)=false from bp aa];rfl
theorem q7:(aU 0).length=0:=by rw[ir];rfl
theorem q6(h:a≠0):0<(aU a).length:=(qT a).2 h
theorem vJ(q:Rat):bA 90 [cJ q] (cB q.den):=by
 refine cT (.cons (iu _) .nil) (iR _) (bg amt ?_);by_cases h:q.den=1
 ·have a:=lZ h;simp(disch:=omega)only[go_sem,H6,cJ,bY,a,q7,dt];refine use (sj 1 aj) ?_;simp only[go_sem,cB,dJ];rw[h];rfl
 ·have a:=jh h;have:=q6 q.den_nz;simp(disch:=omega)only[go_sem,H6,cJ,bY,a,df];rw[Jv]
theorem ach(q:Rat):bA 91 [cJ q] (ai (if q.num<0 then-1 else if q.num=0 then 0 else 1)):=by
 refine cT (.cons (iu _) .nil) (.int _ _) (bg amu ?_);simp(disch:=omega)only[go_sem,XT,cJ,bY];refine use (acC q.num) ?_;simp only[go_sem]
theorem ab'(q:Rat):bA 63 [cJ q] (cJ (-q)):=by
 refine cT (.cons (iu _) .nil) (iu _) (bg amg ?_);simp(disch:=omega)only[go_sem,Xh,Xi,cJ,bY];refine use (Jy q.num) ?_;simp only[go_sem,cB,dJ,true_and];rw[Rat.neg_num];unfold dd;rw[Rat.neg_den]
variable{c:ag}
theorem ZL(a:y.den=1):∃v,cr c (ag.zero c.next) (.agg [.bool (decide (y.num<0)),mag (aU y.num.natAbs),aq,.ak]) v∧bZ v∧v=cJ y:=
 ⟨_,.agg (.cons (.same _) (.cons (.same _) (.cons (.same _) (.cons .fQ .nil)))),by
   have e:V.row 0 []=mag (aU (dd y)):=by rw[lZ a,ir];rfl
   rw[e];exact⟨iu y,rfl⟩⟩
variable{r:Int}
theorem I2(b:y.num=r)(a:y.den=1):∃v,cr c (ag.zero c.next) (.agg [.bool (decide (r<0)),mag (aU r.natAbs),aq,.ak]) v∧bZ v∧v=cJ y:=by
 subst b;exact ZL a
variable{b:List V}{s:V}
theorem e3(d:cM b)(h:dN a b (ag.zero 5) fun e c=>∃v,cr c (ag.zero c.next) e v∧bZ v∧v=s):bA a b s:=
 o6 (R:=fun v=>v=s) d h
theorem g8{v:V}(h:v=s)(a:bZ s):∃u,cr c (ag.zero c.next) v u∧bZ u∧u=s:=⟨v,.same v,by rw[h];exact a,h⟩
theorem Cb(n:Int)(h: -9223372036854775808≤n∧n<9223372036854775808):bA 65 [ai n] (cJ (n:Rat)):=by
 refine e3 (.cons (.int _ _) .nil) (bg ami ?_);simp only[go_sem,Xl,Xm];refine use (sj n h) ?_;simp only[go_sem,cB,dJ];exact I2 rfl rfl
theorem ZF(q:Rat)(j:dI q.den)(F:Fr)(H:ag)(e:rd 2 F=.ptr 5 0)(c:rd 3 F=.ptr 6 0)(f:rd 4 F=.ptr 7 0)(b:H.get 5=.cells (dJ q.num) 0)(a:H.get 6=.cells (dJ q.den) 0)(bO:H.get 7=.cells [aq,.ak,aq,.ak] 0):
 bT GY (gl [.cell 4 true 4] fun k d=>∃v,cr d (ag.zero d.next) k v∧bZ v∧v=cJ q) F H:=by
 unfold dJ at b a;have i:=Mj (q.den:Int) j;have g:decide (((n6 ((q.den:Nat):Int).natAbs:Nat):Int)=1)=decide (q.den=1):=decide_eq_decide.2 (by
  rw[cV];have:=aa6 (n:=q.den);omega)
 simp only[go_sem,GY,Vn,c,a];refine use i ?_;by_cases h:q.den=1
 ·simp(disch:=assumption)only[go_sem,g,dt,e,c,f,b,a,bO];exact ZL h
 ·simp(disch:=assumption)only[go_sem,g,df,e,c,f,b,a,bO];refine g8 ?_ (iu q);unfold cJ bY;rw[jh h,show decide (((q.den:Nat):Int)<0)=false from bp aa,cV]
theorem ZG(n d:Int)(J:0<d)(z:dI n.natAbs)(l:dI d.natAbs)(F:Fr)(H:ag)(b:rd 2 F=.ptr 5 0)(f:rd 3 F=.ptr 6 0)(s:rd 4 F=.ptr 7 0)(a:H.next=8)(c:H.get 5=.cells (dJ n) 0)(e:H.get 6=.cells (dJ d) 0)(bO:H.get 7=.cells [aq,.ak,aq,.ak] 0):
 bT GZ (gl [.cell 4 true 4] fun I q=>∃v,cr q (ag.zero q.next) I v∧bZ v∧v=cJ (mkRat n d.natAbs)) F H:=by
 have p:d.natAbs≠0:=aa;have E:0<cx n.natAbs d.natAbs:=Nat.gcd_pos_of_pos_right _ aa;have x:cx n.natAbs d.natAbs≤d.natAbs:=Nat.gcd_le_right _ aa;have m:dI (cx n.natAbs d.natAbs):=eH x l;have A:dI (mkRat n d.natAbs).den:=eH (mk_le n p).2 l;have i:=wq n p;have j:=BT n p;have w:((d.natAbs/cx n.natAbs d.natAbs:Nat):Int)=d.tdiv (cx n.natAbs d.natAbs:Nat):=by
  obtain⟨k,rfl⟩:∃k:Nat,d=k:=⟨d.natAbs,aa⟩;rfl
 have t:=aif n d z l;have o:=Mj (cx n.natAbs d.natAbs:Nat) (by rw[cV];exact m);obtain⟨g,D⟩:∃g,g=cx n.natAbs d.natAbs:=⟨_,rfl⟩;rw[←D]at E x m i j w t o;rw[cV]at o;have u:decide (1<((n6 g:Nat):Int))=decide (1<g):=decide_eq_decide.2 (by
  have r:=aa6 (n:=g);have b:=anP (n:=g);omega)
 have G:=abF n (g:Int) aa z (by rw[cV];exact m);have y:=abF d (g:Int) aa l (by rw[cV];exact m);rw[←w]at y;have B:=c;have C:=e;unfold dJ at c e;simp only[go_sem,GZ,Vo,b,f,c,e];refine use t ?_;simp only[go_sem,cB,dJ,a];refine use o ?_;by_cases h:1<g
 ·simp(disch:=assumption)only[go_sem,u,dt,b,a,c];refine use G ?_;simp(disch:=assumption)only[go_sem,cB,dJ,b,f,a,c,e];refine use y ?_;simp(disch:=assumption)only[go_sem,cB,dJ,f,a,e];refine ZF _ A _ _ ?_ ?_ ?_ ?_ ?_ ?_
  iterate 3 simp only[go_sem,b,f,s]
  ·rw[i];simp only[go_sem,dJ]
  ·rw[j];simp only[go_sem,dJ]
  ·simp only[go_sem,bO,a]
 ·have r:g=1:=aa;subst r;rw[show((1:Nat):Int)=1 from rfl,Int.tdiv_one]at i;rw[nM]at j;simp(disch:=assumption)only[go_sem,u,df];refine ZF _ A _ _ ?_ ?_ ?_ ?_ ?_ ?_
  iterate 3 simp only[go_sem,b,f,s]
  ·rw[i];simp only[go_sem,B,a]
  ·rw[j,(aa:((d.natAbs:Nat):Int)=d)];simp only[go_sem,C,a]
  ·simp only[go_sem,bO,a]
theorem vW(n d:Int)(f:d≠0)(c:dI n.natAbs)(b:dI d.natAbs):bA 35 [cB n,cB d] (cJ (Rat.divInt n d)):=by
 refine e3 (.cons (iR _) (.cons (iR _) .nil)) (bg alP ?_);by_cases h:d<0
 ·have e:Rat.divInt n d=mkRat (-n) (-d).natAbs:=by
   obtain⟨k,rfl⟩:∃k:Nat,d= -(k:Int):=⟨d.natAbs,aa⟩;rw[←Rat.neg_divInt_neg,Int.neg_neg,tj];simp
  simp(disch:=assumption)only[go_sem,GN,G0,cB,dJ,dt];refine use (Jy n) ?_;simp(disch:=assumption)only[go_sem,cB,dJ,true_and];have a:=Jy d;simp only[cB,dJ,bw h]at a;refine use a ?_;simp(disch:=assumption)only[go_sem];rw[e];refine ZG (-n) (-d) aa (by rw[lO];exact c) (by rw[lO];exact b) _ _ ?_ ?_ ?_ rfl ?_ ?_ ?_
  all_goals simp only[go_sem,dJ]
 ·have e:Rat.divInt n d=mkRat n d.natAbs:=by
   obtain⟨k,rfl⟩:∃k:Nat,d=(k:Int):=⟨d.natAbs,aa⟩;rw[tj];simp
  simp(disch:=assumption)only[go_sem,GN,G0,cB,dJ,df];rw[e];refine ZG n d aa c b _ _ ?_ ?_ ?_ rfl ?_ ?_ ?_
  all_goals simp only[go_sem,dJ,bp h]
end Go.Proofs.YtddhncjmaahodaaGreatDoor
