/- Towards the law TreeLocates: lemmas on the evaluator of the model's code, plain laws of numbers, walks of the program's functions, the card. No conditions. -/
import Derived.Test.YtddhncjmaahodaaGreatDoorE0
import Derived.RangeFuncRecord
import Derived.Scope
import Derived.Attr
import Derived.Test.YtddhncjmaahodaaGreatDoorProg
import Derived.KernelRfl
set_option linter.all false
noncomputable section
open Array renaming getElem?_eq_some_iff→wz,getElem?_push→wA,replicate→r0
open Bool renaming and_eq_true→cu,eq_false_iff→mY,false_eq_true→ie,or_eq_true→r3
open Classical renaming byContradiction→oa,choose_spec→wB
open Go.IntKind renaming bits→p4,signed→p5,wrap→r8
open Go.Proofs.Tryz renaming prog→eP
open Go.Result renaming andThen_ok→dV
open Go.Sem renaming run_bind→cU,run_pure→fO
open Int renaming natCast_mul→fU,tdiv→mg,tmod→m3,toNat_natCast→bJ
open List renaming append_assoc→eJ,cons_append→eS,drop_eq_getElem_cons→lI,drop_left→uS,drop_of_length_le→jB,eq_nil_of_length_eq_zero→oT,ext_getElem?→si,getD_eq_getElem?_getD→bX,getElem?_append_left→lJ,getElem?_drop→q5,getElem?_eq_getElem→cn,getElem?_eq_none→kO,getElem?_eq_some_iff→fN,getElem?_take_of_lt→wH,getElem_mem→wI,length_append→aS,length_cons→cL,length_drop→gZ,length_nil→kP,length_set→gT,length_singleton→gH,length_take_of_le→g6,length_take→dD,length→ku,mem_append→gI,mem_cons→g7,mem_filter→oV,mem_map→k_,mem_of_getElem?→eT,mem_of_mem_take→uT,mem_singleton→dj,nil_append→eI,pairwise_append→wK,pairwise_cons→tD,replicate_succ→p7,replicate_zero→p8,replicate→aX,take_append_drop→p9,take_left→p_,take_of_length_le→b_,take_succ_eq_append_getElem→kQ
open Nat renaming add_assoc→jl,add_comm→i_,add_mul→cF,add_sub_cancel→qb,add_zero→cE,add→gv,beq_refl→sn,beq→bn,ble→bM,div_add_mod→jm,div_eq_of_lt→m4,div_le_self→jn,div_lt_iff_lt_mul→q8,div_lt_of_lt_mul→uU,div_mul_le_self→wM,le_div_iff_mul_le→tG,le_of_lt→g8,le_of_not_lt→jC,le_refl→aE,le_trans→cy,lt_of_le_of_lt→eY,lt_of_lt_of_le→eG,lt_of_mul_lt_mul_right→tH,lt_of_not_le→tI,lt_or_ge→mj,lt_succ_self→mm,lt_trans→qe,mod_eq_of_lt→jV,mod_lt→eU,mul_add→bD,mul_assoc→bT,mul_comm→bK,mul_div_cancel→uW,mul_le_mul_left→fy,mul_le_mul_right→dn,mul_le_mul→j_,mul_left_comm→mo,mul_lt_mul_of_pos_right→od,mul_mod_mul_right→su,mul_one→dF,mul_right_comm→tJ,mul_zero→fc,mul→dQ,not_lt_zero→ke,one_mul→ga,pos_of_ne_zero→ld,pow_add→gw,pow_le_pow_right→gl,pow_pos→fl,pow_succ→cQ,pow_zero→nK,reduceEqDiff→kR,strongRecOn→jD,sub→ja,succ_mul→oe,succ_ne_zero→uY,succ_pos→lf,zero_add→dK,zero_le→bQ,zero_mul→jb
open Option renaming none→aM
open UInt8 renaming ofNat→gJ
namespace Go.au
section
variable {P:Program}{N:eO}{T:cg}{G:Nat}{cf:jR}{ops:Array Oper}
variable{o:aG}{m:Fr}{p:Bool}
theorem arL{a:Act}(i:∀c∈ops.toList,GU a.tmps.size c.dst=true)(c:Oper)(l:∀t,reads ops.toList c t=true→t<a.tmps.size→aJ o (m.get V.undef t) (a.tmps.getD t undef))(q:mc ops.toList c.guard m=some p):
 Region.wanted c (yielded ops a.tmps)=p:=by
 refine Sz (φ:=o) c q (fun j b t h d=>?_);have n:reads ops.toList c t=true:=by
  unfold reads;rw[r3,h];exact .inr (by simp only[d];exact vR.2 rfl)
 obtain⟨r,e,k⟩:=av.1 (show ao (cK ops.toList j) (fun c=>c.dst)=some t from d);rw[gF]at e;have f:=i r (eT e);rw[k]at f;have g:t<a.tmps.size:=(eZ _ _).1 f;exact⟨g,l t n g⟩
def iI(listed:Array Bool)(i:Nat):Prop:=listed.getD i false=true
def Out(N:eO)(T:cg)(ops:Array Oper)(r:List Info)(listed:Array Bool)(x:Info):Prop:=
 x∈dh N T ops.toList∧x.gE=false∧ri ops.toList x r∧¬iI listed x.ix
structure ob (N:eO) (T:cg) (G:Nat) (ops:Array Oper) (kn:aG) (H0:af) (w0:World) (done r:List Info) (F:Fr) (H:af) (listed:Array Bool) (a:Act) (w:World) (φ:aG):Prop where
 split:(dh N T ops.toList).filter (fun i=>i.gE)=done++r
 size:listed.size=ops.size
 closed:Dl ops.toList (iI listed)
 gB:∀e∈done++r,(iI listed e.ix↔e∈done)
 ne:∀x∈dh N T ops.toList,x.gE=false→iI listed x.ix→ri ops.toList x r
 ext:Ext kn H0 w0 φ H w
 BQ:k9 G φ
 tmps:∀t,t<a.tmps.size→(∀x,Out N T ops r listed x→x.o.dst≠some t)→aJ φ (F.get V.undef t) (a.tmps.getD t undef)
 zV:∀x,Out N T ops r listed x→kS N T ops.toList H0.next x.o F H φ
 Fu:AF N T ops.toList (fun o=>∃x,Out N T ops r listed x∧o=x.o) F
variable{h:Nat}{u:Nat}
theorem wL{listed:Array Bool}(hi:h<listed.size):iI (listed.setIfInBounds h true) u↔u=h∨iI listed u:=by
 unfold iI;by_cases a:h=u
 ·subst a;simp[hi]
 ·have b:¬u=h:=fun e=>a e.symm
  simp[Array.getElem?_setIfInBounds_ne a,b]
theorem wQ{r:List Info}{listed:Array Bool}(hi:h<listed.size){x:Info}:Out N T ops r (listed.setIfInBounds h true) x↔Out N T ops r listed x∧x.ix≠h:=by
 unfold Out;rw[wL hi];constructor
 ·rintro⟨c,d,e,b⟩;exact⟨⟨c,d,e,fun a=>b (.inr a)⟩,fun a=>b (.inl a)⟩
 ·rintro⟨⟨c,d,e,b⟩,f⟩;exact⟨c,d,e,fun a=>a.elim f b⟩
variable {kn:aG}{H0:af}{w0:World}{done r:List Info}{F:Fr}{H:af}{listed:Array Bool}{a:Act}{w:World}{φ:aG}
theorem JY(e:Edge):Region.binds .any e=kA e:=by
 unfold Region.binds kA;cases e.ground<;>rfl
theorem Q5(d:h∈Region.ready .any ops listed):∃o,ops[h]? =some o∧ops.toList[h]? =some o∧¬iI listed h∧h<listed.size∧∀e∈o.after.toList,kA e=true→iI listed e.on:=by
 obtain⟨a,o,c,f⟩:=mem_ready.1 d;have b:h<listed.size:=by
  rcases mj h listed.size with h'|h'
  ·exact h'
  ·simp[Array.getElem?_eq_none h']at a
 refine⟨o,c,by simpa using c,?_,b,fun e i g=>?_⟩
 ·unfold iI;simp[b]at a;simp[b,a]
 ·exact f e (by simpa using i) (by rw[JY];exact g)
variable{Y:Oper}
theorem KK(f:ob N T G ops kn H0 w0 done r F H listed a w φ)(g:ops.toList[h]? =some Y)(hi:h<listed.size)(i:∀e∈Y.after.toList,kA e=true→iI listed e.on):Dl ops.toList (iI (listed.setIfInBounds h true)):=by
 intro j k hj b e d c;rw[wL hi]at hj⊢;rcases hj with rfl|hj
 ·rw[g]at b;cases b;exact .inr (i e d c)
 ·exact .inr (f.closed j k hj b e d c)
variable{x:Value}
theorem UN(b:ob N T G ops kn H0 w0 done r F H listed a w φ){d:Info}(K:Out N T ops r listed d)(I:d.o.dst=some u)(hi:d.ix<listed.size)
 (E:∀e∈d.o.after.toList,kA e=true→iI listed e.on) {v:World} (z:Ext kn H0 w0 o H v) (q:φ.le o) (J:aJ o (F.get V.undef u) x)
 (D:∀y,Out N T ops r listed y→y.ix≠d.ix→kS N T ops.toList H0.next y.o F H o):
 ob N T G ops kn H0 w0 done r F H (listed.setIfInBounds d.ix true) (a.put (some u) x) v o:=by
 obtain⟨f,L,M,W⟩:=K;obtain⟨i,X,A,O⟩:=qj.1 f;have C:ops.toList[d.ix]? =some d.o:=by rw[O];exact A
 refine⟨b.split,by simp[b.size],KK b C hi E,?_,?_,z,b.BQ.mono q,?_,?_,?_⟩
 ·intro e g;rw[wL hi,←b.gB e g];constructor
  ·rintro(h|h)
   ·have j:e∈dh N T ops.toList∧e.gE=true:=by
     rw[←b.split]at g;exact oV.1 g
    have:=rm j.1 f h;rw[this,L]at j;cases j.2
   ·exact h
  ·exact .inr
 ·intro y c P hl;rw[wL hi]at hl;rcases hl with h|h
  ·rw[rm c f h];exact M
  ·exact b.ne y c P h
 ·intro s k B;rw[z1]at k;by_cases l:u=s
  ·subst l;simpa [Act.put,k]using J
  ·have:=b.tmps s k (fun y c m=>by
    by_cases t:y.ix=d.ix
    ·rw[rm c.1 f t,I]at m;exact l (Option.some.inj m)
    ·exact B y ((wQ hi).2 ⟨c,t⟩) m)
   have:=this.mono q;simpa [Act.put,Array.getElem?_setIfInBounds_ne l]using this
 ·intro y c;rw[wQ hi]at c;exact D y c.1 c.2
 ·rintro Y Z ⟨S,n,rfl⟩ ⟨U,p,rfl⟩ id Q R;rw[wQ hi]at n p;exact b.Fu _ _ ⟨S,n.1,rfl⟩ ⟨U,p.1,rfl⟩ id Q R
end
section
variable {P:Program}{N:eO}{T:cg}{G:Nat}{cf:jR}{ops:Array Oper}{ro:Option Nat}{nn:Nat}
variable {kn:aG}{H0:af}{w0:World}{done r:List Info}{F:Fr}{H:af}{listed:Array Bool}{a:Act}{w:World}{φ:aG}
variable{u:Nat}
theorem Q3(n:mD ops.toList 0=true)(t:tf ops.toList (dh N T ops.toList)=true)(d:ob N T G ops kn H0 w0 done r F H listed a w φ){x:Info}(b:x∈dh N T ops.toList)
 (q:∀e∈x.o.after.toList,kA e=true→iI listed e.on) (g:reads ops.toList x.o u=true) (s:u<a.tmps.size):aJ φ (F.get V.undef u) (a.tmps.getD u undef):=by
 refine d.tmps u s (fun y z B=>?_);obtain⟨j,k,C,A⟩:=z;obtain⟨l,m⟩:=(qS t j).2 u B;have c:reads ops.toList y.o u=false:=l.resolve_left (by rw[k];simp);obtain⟨i,D,p,v⟩:=qj.1 b;rcases m x b with h|h|h|h
 ·rw[←rm b j h,g]at c;cases c
 ·unfold k6 at h;rw[g]at h;simp at h
 ·refine A (Ei n d.closed (fun E f=>?_) h);have:ops.toList[x.ix]? =some x.o:=by rw[v];exact p
  rw[this]at f;cases f;exact q
 ·rw[k]at h;cases h.1
theorem Qi(l:mD ops.toList 0=true)(q:tf ops.toList (dh N T ops.toList)=true)(n:∀c∈ops.toList,nx G a.tmps.size c=true)(d:ob N T G ops kn H0 w0 done r F H listed a w φ){x:Info}(k:x∈dh N T ops.toList)
 (p:∀e∈x.o.after.toList,kA e=true→iI listed e.on):jE φ F a.eval x.o.op.operands.toList∧(∀ {z:Bool},mc ops.toList x.o.guard F=some z→Region.wanted x.o (yielded ops a.tmps)=z):=by
 obtain⟨i,c,D,J⟩:=qj.1 k;have E:x.o∈ops.toList:=by rw[J];exact eT D
 have j:=n x.o E;unfold nx at j;rw[cu]at j;constructor
 ·intro y s f b;have m:=GZ (uf.1 j.2 y s);cases y with
  |tmp t=>
   cases b;exact Q3 l q d k p (Q4 s) m
  |const v=>
   obtain⟨u,I,b⟩:=av.1 (show ao (mU 20 v) (fun y=>some (fun _=>y))=some f from b);cases b;exact C1 φ _ _ _ I
  |global g=>
   cases b;obtain⟨K,e⟩:=d.BQ g m;exact .ptr e
  |func A=>cases b;exact .func A .nil .nil
 ·exact fun h=>arL (fun c h=>by have:=n c h;unfold nx at this;rw[cu]at this;exact this.1) x.o (fun t B C=>Q3 l q d k p B C) h
variable{Y:Oper}{Q:Loc}
theorem kS.add{c:List Oper}{B:Nat}{id:Nat}(b:kS N T c B Y F H φ)(u:∀a,sv N T c Y F a→a≠id):kS N T c B Y F H (φ.add id Q):=by
 obtain⟨t,k,b⟩:=b;refine⟨t,k,?_⟩;rcases b with h|⟨e,m,g,q,f,i,n⟩|h
 ·exact .inl h
 ·refine .inr (.inl ⟨e,m,g,q,f,i,?_⟩);rcases n with h|⟨d,l,a,rfl,j,o,p,r,s⟩
  ·exact .inl h
  ·refine .inr ⟨d,l,a,rfl,j,o,?_,r,s⟩;rw[aG.add_get];rw[aj (u a ⟨t,m,g,d,l,k,e,f,i,j⟩)];exact p
 ·exact .inr (.inr h)
variable{h:Nat}
theorem anU(b:mD ops.toList 0=true)(d:tf ops.toList (dh N T ops.toList)=true){x y:Info}(g:x∈dh N T ops.toList)(i:y∈dh N T ops.toList)(k:x.gE=false)(l:y.gE=false)(j:y.o=x.o)(a:x.o.dst=some h):y.ix=x.ix:=by
 have c:y.o.dst=some h:=by rw[j];exact a
 have m:k6 ops.toList x.o h=true:=by unfold k6;rw[vR.2 a];rfl
 have n:k6 ops.toList y.o h=true:=by unfold k6;rw[vR.2 c];rfl
 rcases((qS d g).2 h a).2 y i with e|e|e|e
 ·exact e
 ·rw[n]at e;cases e
 ·rcases((qS d i).2 h c).2 x g with f|f|f|f
  ·exact f.symm
  ·rw[m]at f;cases f
  ·have:=pred_lt b e;have:=pred_lt b f;omega
  ·rw[l]at f;cases f.1
 ·rw[k]at e;cases e.1
variable{J:Exit→Act→World→Prop}
theorem anj(hT:cR P T)(b7:jU P N)(I:mD ops.toList 0=true)(Q:tf ops.toList (dh N T ops.toList)=true)(ad:∀aw∈ops.toList,nx G a.tmps.size aw=true)
 (b:ob N T G ops kn H0 w0 done r F H listed a w φ) {x:Info} (k:Out N T ops r listed x) (al:ops[x.ix]? =some x.o) (hi:x.ix<listed.size) (O:∀e∈x.o.after.toList,kA e=true→iI listed e.on) {K:Act→World→Prop}
 (Z:∀s i h,ob N T G ops kn H0 w0 done r F H (listed.setIfInBounds x.ix true) s i h→s.tmps.size=a.tmps.size→s.defers=a.defers→K s i):wpOpIn (fw ro) nn P ops J x.ix K a w:=by
 obtain⟨L,D⟩:=Qi I Q ad b k.1 O;have ap:∀f,a.eval (.func f)=.func (.func f) #[] #[]:=fun f=>rfl
 obtain⟨t,A,hp⟩:=b.zV x k;have z:∀ {h:aG}{i:World}{m:Value},Ext kn H0 w0 h H i→φ.le h→aJ h (F.get V.undef t) m→(∀y,Out N T ops r listed y→y.ix≠x.ix→kS N T ops.toList H0.next y.o F H h)→K (a.put x.o.dst m) i:=by
  intro h i m d c j B;rw[A];exact Z _ _ h (UN b k A hi O d c j B) (z1 _ _ _) (put_defers _ _ _)
 have C:∀y,Out N T ops r listed y→y.ix≠x.ix→kS N T ops.toList H0.next y.o F H φ:=fun y l _=>b.zV y l
 unfold wpOpIn;simp only[al];rcases hp with⟨d,c⟩|⟨d,R,g,q,c,j,B⟩|⟨d,R,g,c,j⟩
 ·rw[D d];simp only[ie,if_false];refine⟨fun _ _=>trivial,?_⟩;exact z b.ext (aG.le_refl _) (by rw[c];exact .az .nil) C
 ·rw[D d];simp only[if_true];refine⟨fun _ _=>trivial,?_⟩;rw[Oper.semAt_eq _ _ _ (vO (N:=N) (T:=T) (by rw[c];simp))];have M:=Qz hT b7 ap x.o c L j w;rcases B with⟨v,rfl,u⟩|⟨S,sh,id,rfl,u,W,E,X,Y⟩
  ·obtain⟨m,n,p⟩:=M;rw[n];exact z b.ext (aG.le_refl _) (by rw[u];exact p) C
  ·obtain⟨m,i,a1,n,p,U⟩:=M;rw[n];refine z (agK b.ext W E X Y p) (aG.vF E) (by rw[u];exact U _ _ (aG.tO _ _ _)) (fun y l am=>?_);refine(b.zV y l).add (fun ar hn he=>am ?_);subst he;exact anU I Q k.1 l.1 k.2.1 l.2.1 (b.Fu _ _ ⟨y,l,rfl⟩ ⟨x,k,rfl⟩ ar hn ⟨t,R,g,S,sh,A,d,c,j,u⟩) A
 ·rw[D d];simp only[if_true];refine⟨fun _ _=>trivial,?_⟩;rw[Oper.semAt_eq _ _ _ (vO (N:=N) (T:=T) (by rw[c];simp))];obtain⟨m,n,p⟩:=QZ hT b.ext.rel x.o c L j;rw[n];exact z b.ext (aG.le_refl _) p C
end
section
variable {P:Program}{N:eO}{T:cg}{G:Nat}{ops:Array Oper}{ro:Option Nat}{nn:Nat}
variable {kn:aG}{H0:af}{w0:World}{done r:List Info}{F:Fr}{H:af}{listed:Array Bool}{a:Act}{w:World}{φ:aG}
def Ap(l a:List Info)(r:List Info)(j:Nat):List c3:=match r with
 |[]=>[]
 |e::r=>c3.ex e.s::cW (lmap (fun i=>c3.re i.s) (kH (fun i=>and (!i.gE) (and (xF i.s.cop) (and (bM (nc a i.mask) j) (!(iB e.mask i.ix))))) l)) (Ak l a r (j+1))
theorem R1(l a r:List Info)(j:Nat):Ak l a r j=cW (lmap (fun i=>c3.ex i.s) (mA l a j)) (Ap l a r j):=by
 cases r with
 |nil=>rw[iP];show lmap _ _=_++[];simp
 |cons e r=>rfl
variable{e:Fr→af→Prop}
theorem aoY(f:Info→Step):∀ {l:List Info}{F:Fr}{H:af},gz P G (lmap (fun i=>c3.re (f i)) l) F H e→e F H∧∀i∈l,wv (f i) F H:=by
 intro l;induction l with
 |nil=>exact fun h=>⟨h,fun i hi=>by cases hi⟩
 |cons i l d=>
  intro F H h;have a:wv (f i) F H∧gz P G (lmap (fun i=>c3.re (f i)) l) F H e:=h;obtain⟨b,c⟩:=d a.2;refine⟨b,fun j hj=>?_⟩;rcases g7.1 hj with rfl|hj
  ·exact a.1
  ·exact c j hj
theorem R0:∀ {l:List Info}{F:Fr}{H:af},(∀i∈l,qA i.s.cop=false)→gz P G (lmap (fun i=>c3.ex i.s) l) F H e→∃f k,s5 qI (lmap (fun i=>c3.ex i.s) l) F H=some (f,k)∧e f k:=by
 intro l;induction l with
 |nil=>exact fun _ h=>⟨_,_,rfl,h⟩
 |cons i l v=>
  intro F H o h;have p:jq P G i.s F H fun b c=>gz P G (lmap (fun i=>c3.ex i.s) l) b c e:=h
  have t:∃b c,exec qI i.s F H=some (b,c)∧gz P G (lmap (fun i=>c3.ex i.s) l) b c e:=by
   rcases p with⟨m,a⟩|⟨m,a⟩
   ·exact⟨_,_,by unfold exec;rw[m],a⟩
   ·have hi:=o i aB;cases d:i.s.cop with
    |call n g=>rw[d]at hi;cases hi
    |mN x=>rw[d]at hi;cases hi
    |gB n g=>rw[d]at hi;cases hi
    |bad=>rw[d]at a;exact a
    |pu n g=>rw[d]at a;exact a
    |rd n g=>rw[d]at a;exact a
  obtain⟨b,c,m,a⟩:=t;obtain⟨f,k,q,r⟩:=v (fun j u=>o j (by simp[u])) a;exact⟨f,k,av.2 ⟨(b,c),m,q⟩,r⟩
variable{J:Exit→Act→World→Prop}
theorem agh(hT:cR P T)(b7:jU P N)(L:mD ops.toList 0=true)(R:tf ops.toList (dh N T ops.toList)=true)(aw:(done++r).Pairwise (fun a b=>Pred ops.toList b.ix a.ix))
 (dt:∀ae∈ops.toList,nx G a.tmps.size ae=true) (n:ob N T G ops kn H0 w0 done r F H listed a w φ) {x:Info} (D:x∈dh N T ops.toList) (ad:x.gE=true) (dq:¬iI listed x.ix) (ca:ops[x.ix]? =some x.o) (hi:x.ix<listed.size)
 (hr:∀m∈x.o.after.toList,kA m=true→iI listed m.on) (dv:gz P G (Ap (dh N T ops.toList) (done++r) r done.length) F H e) {K:Act→World→Prop}
 (hK:∀a' w' O d Q X,r=x::d→ob N T G ops kn H0 w0 (done++[x]) d Q X (listed.setIfInBounds x.ix true) a' w' O→gz P G (Ap (dh N T ops.toList) ((done++[x])++d) d (done++[x]).length) Q X e→
   a'.tmps.size=a.tmps.size→a'.defers=a.defers→K a' w'):wpOpIn (fw ro) nn P ops J x.ix K a w:=by
 obtain⟨ho,hw⟩:=Qi L R dt n D hr;have cb:ops.toList[x.ix]? =some x.o:=by simpa using ca
 have ce:x.s=stepOf N T ops.toList x.o∧x.mask=maskAt ops.toList x.ix:=by
  obtain⟨i,ae,_,rfl⟩:=qj.1 D;exact⟨rfl,rfl⟩
 have a1:∀ {j:Nat},Pred ops.toList x.ix j→iI listed j:=fun h=>Ei L n.closed (fun o' bj=>by rw[cb]at bj;cases bj;exact hr) h
 have b':x∈done++r:=by rw[←n.split];exact oV.2 ⟨D,ad⟩
 have cd:x∈r:=by
  rcases gI.1 b' with h|h
  ·exact absurd ((n.gB x b').2 h) dq
  ·exact h
 have dE:∃d,r=x::d:=by
  cases r with
  |nil=>cases cd
  |cons m d=>
   rcases g7.1 cd with rfl|h
   ·exact⟨d,rfl⟩
   ·have hp:Pred ops.toList x.ix m.ix:=(tD.1 (wK.1 aw).2.1).1 x h;have db:=(n.gB m aB).1 (a1 hp);have:=(wK.1 aw).2.2 m db m aB;have:=pred_lt L this;omega
 obtain⟨d,rfl⟩:=dE;have b2:jq P G x.s F H fun q W=>gz P G (cW (lmap (fun i=>c3.re i.s) (kH (fun i=>and (!i.gE) (and (xF i.s.cop) (and (bM (nc (done++x::d) i.mask) done.length) (!(iB x.mask i.ix))))) (dh N T ops.toList))) (Ak (dh N T ops.toList) (done++x::d) d (done.length+1))) q W e:=dv
 rw[ce.1]at b2;have be:(done++[x]).length=done.length+1:=aB;have ab:(done++[x])++d=done++x::d:=aB;have E:∀y∈dh N T ops.toList,y.mask=maskAt ops.toList y.ix∧y.s=stepOf N T ops.toList y.o∧qA (cop N T y.o.op)=y.gE:=by
  intro y c;obtain⟨i,ae,_,rfl⟩:=qj.1 c;exact⟨rfl,rfl,rfl⟩
 have a6:∀y∈dh N T ops.toList,(nc (done++x::d) y.mask≤done.length↔ri ops.toList y (x::d)):=fun y c=>H6 L aw (E y c).1
 have b0:∀y∈dh N T ops.toList,(nc (done++x::d) y.mask≤done.length+1↔ri ops.toList y d):=fun y c=>by
  have:=H6 (done:=done++[x]) (r:=d) L (by rw[ab];exact aw) (E y c).1;rw[ab,be]at this;exact this
 have ac:∀u,u∈mA (dh N T ops.toList) (done++x::d) (done.length+1)↔u∈dh N T ops.toList∧u.gE=false∧ri ops.toList u d∧¬ri ops.toList u (x::d):=by
  intro u;unfold mA;rw[vH,oV];constructor
  ·rintro⟨f,k⟩;rw[cu,beq_eq]at k;exact⟨f,by simpa using k.1,(b0 u f).1 aa,fun h=>by have:=(a6 u f).2 h;omega⟩
  ·rintro⟨f,k,I,z⟩;refine⟨f,?_⟩;rw[cu,beq_eq];have B:=(b0 u f).2 I;have Y:=mt (a6 u f).1 z;exact⟨by simp[k],aa⟩
 refine R2 ca hT b7 ho hw n.ext.rel n.BQ b2 ?_;intro v v' O w' W jv d5 a5;generalize ap:put F x.o.dst v=q at a5
 replace ap:=ap.symm;rw[iP]at a5;obtain⟨bv,c2⟩:=aoY (fun i=>i.s) (gz.app.1 a5);rw[R1,iP]at bv;obtain⟨Q,X,dT,dC⟩:=R0 (fun u C=>by
  obtain⟨f,k,_,_⟩:=(ac u).1 C;rw[(E u f).2.1];show qA (cop N T u.o.op)=false;rw[(E u f).2.2];exact k) (gz.app.1 bv)
 have Z:∀y,Out N T ops (x::d) listed y→∀t,k6 ops.toList y.o t=true→q.get V.undef t=F.get V.undef t:=by
  intro y c t p;rw[ap];cases M:x.o.dst with
  |none=>rfl
  |some t0=>
   rw[oI,aj];intro m;subst m;rcases((qS R D).2 t0 M).2 y c.1 with h|h|h|h
   ·have k:=c.2.1;rw[rm c.1 D h,ad]at k;cases k
   ·rw[p]at h;cases h
   ·exact c.2.2.1 x aB h
   ·exact c.2.2.2 (a1 h.2)
 have c1:∀y,Out N T ops (x::d) listed y→kS N T ops.toList H0.next y.o q W O:=by
  intro y c;refine(n.zV y c).keep (Z y c) (fun id eq B Y a0=>⟨?_,?_,eG a0 jv.next⟩) (fun xs g u B Y a0 bb=>?_)
  ·rw[jv.nX a0 Y (by rw[B];simp)];exact B
  ·cases h:O id with
   |none=>rfl
   |some l=>have:=(jv.fresh Y h).1;omega
  ·have bs:∀t,reads ops.toList y.o t=true→q.get V.undef t=F.get V.undef t:=fun t p=>Z y c t (by unfold k6;rw[p];simp)
   obtain⟨t,p,_⟩:=n.zV y c;have da:q.get V.undef t=F.get V.undef t:=Z y c t (by unfold k6;rw[vR.2 p];rfl);have hm:y∈kH (fun i=>and (!i.gE) (and (xF i.s.cop) (and (bM (nc (done++x::d) i.mask) done.length) (!(iB x.mask i.ix))))) (dh N T ops.toList):=by
    rw[vH,oV];refine⟨c.1,?_⟩;have du:xF y.s.cop=true:=by rw[(E y c.1).2.1];show xF (cop N T y.o.op)=true;rw[B];rfl
    have c':bM (nc (done++x::d) y.mask) done.length=true:=(eZ _ _).2 ((a6 y c.1).2 c.2.2.1);have dp:iB x.mask y.ix=false:=by
     apply mY.2;intro h;rw[ce.2]at h;exact c.2.2.2 (a1 h)
    rw[c.2.1,du,c',dp];rfl
   have ar:=c2 y hm;rw[(E y c.1).2.1]at ar;have d7:(stepOf N T ops.toList y.o).want q=some true:=(uM bs).trans Y;rcases ar with h0|⟨_,ar⟩
   ·rw[d7]at h0;cases h0
   ·obtain⟨u1,bd,d3⟩:=ar xs _ B;have d4:=(d3 t p).symm;rw[sW (Hs B) bs]at bd;rw[bd,d4];have co:aO.lS V.undef (path t) q=q.get V.undef t:=rfl;rw[co,da];rw[p]at bb;rw[←bb];rfl
 have hB:H0.next≤W.next:=cy n.ext.next jv.next
 obtain⟨q1,d9,d',ea,eb,ed,eh⟩:=RZ (N:=N) (T:=T) (ol:=ops.toList) (B:=H0.next) (cf:=qI) (φ:=O) (w:=w') (mA (dh N T ops.toList) (done++x::d) (done.length+1)) q W Q X (fun ae=>∃y,Out N T ops (x::d) listed y∧ae=y.o)
  (fun u C=>by
    obtain⟨f,k,_,_⟩:=(ac u).1 C;refine⟨(E u f).2.1,by rw[(E u f).2.2];exact k,?_⟩;cases M:u.o.dst with
    |none=>have:=(qS R f).1 M;rw[k]at this;cases this
    |some t=>exact⟨t,rfl,((qS R f).2 t M).1.resolve_left (by rw[k];simp)⟩)
  (by
    rintro _ u ⟨y,c,rfl⟩ C t p;obtain⟨f,k,_,z⟩:=(ac u).1 C;rcases((qS R f).2 t p).2 y c.1 with h|h|h|h
    ·rw[rm c.1 f h]at c;exact absurd c.2.2.1 z
    ·exact h
    ·exact absurd (fun m A hp=>c.2.2.1 m A (Hf L h hp)) z
    ·rw[k]at h;cases h.1)
  (by
    unfold mA;rw[vH];refine(List.Pairwise.filter _ (Jc ops.toList)).imp_of_mem ?_;intro u1 u2 d0 d2 es t p;have d1:=(oV.1 d0);have b1:=(oV.1 d2);have cs:u2.gE=false:=by have:=b1.2;rw[cu]at this;simpa using this.1
    rcases((qS R b1.1).2 t p).2 u1 d1.1 with h|h|h|h
    ·omega
    ·exact h
    ·have:=pred_lt L h;omega
    ·rw[cs]at h;cases h.1)
  jv.rel hB (by rintro _ ⟨y,c,rfl⟩;exact c1 y c)
  (by
    rintro _ _ ⟨S,cf,rfl⟩ ⟨U,ch,rfl⟩ id n1 n2;exact n.Fu _ _ ⟨S,cf,rfl⟩ ⟨U,ch,rfl⟩ id (n1.congr (Z S cf)) (n2.congr (Z U ch))) dT
 have a2:∀y,Out N T ops d (listed.setIfInBounds x.ix true) y→Out N T ops (x::d) listed y∨y∈mA (dh N T ops.toList) (done++x::d) (done.length+1):=by
  intro y c;rw[wQ hi]at c;obtain⟨⟨f,k,I,z⟩,_⟩:=c;by_cases h:ri ops.toList y (x::d)
  ·exact .inl ⟨f,k,h,z⟩
  ·exact .inr ((ac y).2 ⟨f,k,I,h⟩)
 have df:∀y,Out N T ops (x::d) listed y→Out N T ops d (listed.setIfInBounds x.ix true) y:=by
  rintro y ⟨f,k,I,z⟩;refine(wQ hi).2 ⟨⟨f,k,fun m A=>I m (by simp[A]),z⟩,fun m=>?_⟩;rw[rm f D m,ad]at k;cases k
 have dk:∀u∈mA (dh N T ops.toList) (done++x::d) (done.length+1),Out N T ops d (listed.setIfInBounds x.ix true) u:=by
  intro u C;obtain⟨f,k,I,z⟩:=(ac u).1 C;refine(wQ hi).2 ⟨⟨f,k,I,fun hl=>z (n.ne u f k hl)⟩,fun m=>?_⟩;rw[rm f D m,ad]at k;cases k
 refine hK _ w' O d Q X rfl ⟨by rw[ab];exact n.split,by simp[n.size],KK n cb hi hr,?_,?_,NP (n.ext.trans jv) q1 eb ed,n.BQ.mono jv.le,?_,?_,?_⟩ (by rw[ab,be];exact dC) (z1 _ _ _) (put_defers _ _ _)
 ·intro m A;rw[ab]at A;rw[wL hi,gI,dj,n.gB m A];have dd:m∈dh N T ops.toList:=by rw[←n.split]at A;exact(oV.1 A).1
  constructor
  ·rintro(h|h)
   ·exact .inr (rm dd D h)
   ·exact .inl h
  ·rintro(h|h)
   ·exact .inr h
   ·exact .inl (by rw[h])
 ·intro y c a7 hl;rw[wL hi]at hl;rcases hl with h|h
  ·rw[rm c D h,ad]at a7;cases a7
  ·exact fun m A=>n.ne y c a7 h m (by simp[A])
 ·intro t p bi;rw[z1]at p;have B:Q.get V.undef t=q.get V.undef t:=ea t (fun u C=>bi u (dk u C));rw[B,ap];have bo:x.o.dst≠some t→aJ O (F.get V.undef t) (a.tmps.getD t undef):=fun _=>(n.tmps t p (fun y c=>bi y (df y c))).mono jv.le
  cases M:x.o.dst with
  |none=>exact bo (by rw[M];simp)
  |some t0=>
   rw[oI];by_cases h:t0=t
   ·subst h;rw[ak rfl];simpa [Act.put,p]using d5
   ·rw[aj h];have:=bo (by rw[M];intro m;exact h (Option.some.inj m));simpa [Act.put,Array.getElem?_setIfInBounds_ne h]using this
 ·intro y c;rcases a2 y c with h|h
  ·exact d9 y.o ⟨y,h,rfl⟩
  ·exact d' y h
 ·rintro _ _ ⟨S,f,rfl⟩ ⟨U,k,rfl⟩ id n1 n2;refine eh _ _ ?_ ?_ id n1 n2
  ·rcases a2 S f with h|h
   ·exact .inl ⟨S,h,rfl⟩
   ·exact .inr ⟨S,h,rfl⟩
  ·rcases a2 U k with h|h
   ·exact .inl ⟨U,h,rfl⟩
   ·exact .inr ⟨U,h,rfl⟩
end
section
variable {P:Program}{N:eO}{T:cg}{G:Nat}{ops:Array Oper}{ro:Option Nat}{nn:Nat}
variable {kn:aG}{H0:af}{w0:World}{done r:List Info}{F:Fr}{H:af}{listed:Array Bool}{a:Act}{w:World}{φ:aG}
theorem Te(c:mD ops.toList 0=true)(k:listed.size=ops.size)(h:Region.ready .any ops listed=[]):∀i,i<ops.size→iI listed i:=by
 intro i;induction i using jD with
 |_ i j=>
  intro hi;refine oa fun a=>?_
  have b:i∈Region.ready .any ops listed:=by
   refine mem_ready.2 ⟨?_,ops[i],by simp[hi],fun e f d=>?_⟩
   ·unfold iI at a;have:i<listed.size:=aa;simp[this]at a⊢;exact a
   ·have g:=xu c (i:=i) (o:=ops[i]) (by simp[hi]) (e:=e) (by simpa using f) (by rw[←JY];exact d);exact j e.on g aa
  rw[h]at b;cases b
theorem UM(f:mD ops.toList 0=true)(k:(done++r).Pairwise (fun a b=>Pred ops.toList b.ix a.ix))(c:ob N T G ops kn H0 w0 done r F H listed a w φ)(h:Region.ready .any ops listed=[]):r=[]∧jF φ F a.tmps:=by
 have g:=Te f c.size h;have j:∀x∈dh N T ops.toList,x.ix<ops.size:=by
  intro x d;obtain⟨i,o,n,rfl⟩:=qj.1 d;have:=(fN.1 n).1;show i<ops.size;simpa using this
 refine⟨?_,fun t p=>c.tmps t p (fun x d=>absurd (g _ (j x d.1)) d.2.2.2)⟩;cases r with
 |nil=>rfl
 |cons e r=>
  have m:e∈dh N T ops.toList:=by
   have:e∈done++e::r:=aB;rw[←c.split]at this;exact(oV.1 this).1
  have l:=(c.gB e aB).1 (g _ (j e m));have:=(wK.1 k).2.2 e l e aB;have:=pred_lt f this;omega
variable{h:Nat}
theorem KM(hi:h<listed.size)(a:¬iI listed h){k:Nat}(f:listed.toList.count false≤k+1):(listed.setIfInBounds h true).toList.count false≤k:=by
 have d:listed.toList[h]'(by simpa using hi)=false:=by
  unfold iI at a;simp[hi]at a;simpa using a
 have e:(listed.setIfInBounds h true).toList=listed.toList.set h true:=aB;rw[e,List.count_set (by simpa using hi),d];have b:(if(false==false)=true then 1 else 0)=1:=rfl;have c:(if(true==false)=true then 1 else 0)=0:=rfl;rw[b,c];omega
variable{J:Exit→Act→World→Prop}{e:Fr→af→Prop}
theorem Tk(hT:cR P T)(b7:jU P N)(q:mD ops.toList 0=true)(U:tf ops.toList (dh N T ops.toList)=true)
 (D:((dh N T ops.toList).filter (fun i=>i.gE)).Pairwise (fun a b=>Pred ops.toList b.ix a.ix)) (ae:∀o∈ops.toList,nx G h o=true) {u:List Deferred}
 (Z:∀n d m A B,Ext kn H0 w0 n B m→jF n A d.tmps→d.tmps.size=h→d.defers=u→e A B→J .normal d m):
 ∀(p:Nat) (listed:Array Bool) (a:Act) (w:World) (φ:aG) (F:Fr) (H:af) (done r:List Info),ob N T G ops kn H0 w0 done r F H listed a w φ→gz P G (Ap (dh N T ops.toList) (done++r) r done.length) F H e→
  listed.toList.count false≤p→a.tmps.size=h→a.defers=u→wpAnyIn (fw ro) nn P .any ops J p listed a w:=by
 have M:∀(listed:Array Bool) (a:Act) (w:World) (φ:aG) (F:Fr) (H:af) (done r:List Info),ob N T G ops kn H0 w0 done r F H listed a w φ→gz P G (Ap (dh N T ops.toList) (done++r) r done.length) F H e→
  a.tmps.size=h→a.defers=u→Region.ready .any ops listed=[]→J .normal a w:=by
  intro listed a w φ F H done r c l f j t;obtain⟨rfl,ap⟩:=UM q (by rw[←c.split];exact D) c t;exact Z φ a w F H c.ext ap f j l
 intro p;induction p with
 |zero=>
  intro listed a w φ F H done r c l I f j;have t:Region.ready .any ops listed=[]:=by
   rw[List.eq_nil_iff_forall_not_mem];intro i hi;obtain⟨o,_,_,g,k,_⟩:=Q5 hi;have:=KM k g (k:=0) aa;have hf:listed.toList[i]'(by simpa using k)=false:=by
    unfold iI at g;simp[k]at g;simpa using g
   have ad:false∈listed.toList:=by rw[←hf];exact wI _
   have:=List.count_pos_iff.2 ad;omega
  exact⟨t,M listed a w φ F H done r c l f j t⟩
 |succ p W=>
  intro listed a w φ F H done r c l I f j;refine⟨M listed a w φ F H done r c l f j,fun i hi=>?_⟩;obtain⟨o,O,S,g,k,z⟩:=Q5 hi;have V:mkInfo N T ops.toList i o∈dh N T ops.toList:=qj.2 ⟨i,o,S,rfl⟩;have E:(done++r).Pairwise (fun a b=>Pred ops.toList b.ix a.ix):=by rw[←c.split];exact D
  have R:∀o∈ops.toList,nx G a.tmps.size o=true:=by rw[f];exact ae
  have K:=KM k g I;cases C:(mkInfo N T ops.toList i o).gE with
  |false=>
   have al:Out N T ops r listed (mkInfo N T ops.toList i o):=by
    refine⟨V,C,fun s L hp=>?_,g⟩;have hl:iI listed s.ix:=Ei q c.closed (fun o' Q=>by rw[show ops.toList[(mkInfo N T ops.toList i o).ix]? =some o from S]at Q;cases Q;exact z) hp;have ab:=(c.gB s (by simp[L])).1 hl;have:=(wK.1 E).2.2 s ab s L;have:=pred_lt q this;omega
   refine anj (x:=mkInfo N T ops.toList i o) hT b7 q U R c al O k z ?_;intro d m n y v x;exact W _ d m n F H done r y l K (v.trans f) (x.trans j)
  |true=>
   refine agh (x:=mkInfo N T ops.toList i o) hT b7 q U E R c V C g O k z l ?_;intro d m n r' X Y _ y ar v x;exact W _ d m n X Y (done++[mkInfo N T ops.toList i o]) r' y ar K (v.trans f) (x.trans j)
variable{p:Bool}
theorem apc{id:Nat}(hT:cR P T)(b7:jU P N)(fY:P.follows .mixedOrders=true)(X:∀C∈ops.toList,nx G a.tmps.size C=true)
 (Y:Rel φ H w) (V:jF φ F a.tmps) (W:k9 G φ) {l:List c3} (z:plan N T ops.toList p=some l) (A:gz P G l F H e)
 (Q:∀ψ n w' L M,Ext φ H w ψ M w'→jF ψ L n.tmps→n.tmps.size=a.tmps.size→n.defers=a.defers→e L M→J .normal n w'):(Code.region id ops p).wpIn (fw ro) nn P J a w:=by
 cases p with
 |false=>
  cases z;refine wpIn_region ?_;have:=an_ (ro:=ro) (nn:=nn) (Q:=J) hT b7 X ops.toList 0 φ F H a w (fun j C hj=>by simpa using hj) rfl Y V W A Q;rw[List.range_eq_range'];simpa using this
 |true=>
  obtain⟨b,z⟩:=cH.1 (show aQ (and (mD ops.toList 0) (and (tf ops.toList (dh N T ops.toList)) (A1 (kH (fun i=>i.gE) (dh N T ops.toList)))))
   (some (Ak (dh N T ops.toList) (kH (fun i=>i.gE) (dh N T ops.toList)) (kH (fun i=>i.gE) (dh N T ops.toList)) 0))=some l from z)
  cases z;rw[cu,cu,vH]at b;rw[vH]at A;obtain⟨q,B,a0⟩:=b;have f:∀y∈dh N T ops.toList,y.mask=maskAt ops.toList y.ix∧y.s=stepOf N T ops.toList y.o∧qA (cop N T y.o.op)=y.gE:=by
   intro y m;obtain⟨i,C,_,rfl⟩:=qj.1 m;exact⟨rfl,rfl,rfl⟩
  have R:=Us q (l:=(dh N T ops.toList).filter (fun i=>i.gE)) (fun x hx=>(f x (oV.1 hx).1).1) a0;refine wpIn_region_any fY ?_;generalize U:(dh N T ops.toList).filter (fun i=>i.gE)=d at*
  rw[R1,iP]at A;have ab:∀y∈dh N T ops.toList,(nc d y.mask≤0↔ri ops.toList y d):=fun y m=>H6 (done:=[]) q R (f y m).1
  have K:∀u,u∈mA (dh N T ops.toList) d 0↔u∈dh N T ops.toList∧u.gE=false∧ri ops.toList u d:=by
   intro u;unfold mA;rw[vH,oV];constructor
   ·rintro⟨b,c⟩;rw[cu,beq_eq]at c;exact⟨b,by simpa using c.1,(ab u b).1 aa⟩
   ·rintro⟨b,c,g⟩;refine⟨b,?_⟩;rw[cu,beq_eq];have e1:=(ab u b).2 g;exact⟨by simp[c],aa⟩
  obtain⟨D,E,a5,a4⟩:=R0 (fun u k=>by
   obtain⟨b,c,_⟩:=(K u).1 k;rw[(f u b).2.1];show qA (cop N T u.o.op)=false;rw[(f u b).2.2];exact c) (gz.app.1 A)
  have Z:Rel φ H { w with drawn:=w.drawn+1 }:=Y.drew 1
  obtain⟨q1,b1,bc,bd,be,bi,bj⟩:=RZ (N:=N) (T:=T) (ol:=ops.toList) (B:=H.next) (cf:=qI) (φ:=φ) (w:= { w with drawn:=w.drawn+1 }) (mA (dh N T ops.toList) d 0) F H D E (fun _=>False)
   (fun u k=>by
     obtain⟨b,c,_⟩:=(K u).1 k;refine⟨(f u b).2.1,by rw[(f u b).2.2];exact c,?_⟩;cases S:u.o.dst with
     |none=>have:=(qS B b).1 S;rw[c]at this;cases this
     |some t=>exact⟨t,rfl,((qS B b).2 t S).1.resolve_left (by rw[c];simp)⟩)
   (fun _ _ h=>h.elim)
   (by
     unfold mA;rw[vH];refine(List.Pairwise.filter _ (Jc ops.toList)).imp_of_mem ?_;intro u1 u2 a6 a8 b0 t I;have a7:=(oV.1 a6);have ac:=(oV.1 a8);have ar:u2.gE=false:=by have:=ac.2;rw[cu]at this;simpa using this.1
     rcases((qS B ac.1).2 t I).2 u1 a7.1 with h|h|h|h
     ·omega
     ·exact h
     ·have:=pred_lt q h;omega
     ·rw[ar]at h;cases h.1)
   Z (aE _) (fun _ h=>h.elim) (fun _ _ h=>h.elim) a5
  have r:∀i,¬iI (r0 ops.size false) i:=by
   intro i h;unfold iI at h;by_cases hi:i<ops.size
   ·simp[hi]at h
   ·simp[Array.getElem?_eq_none (show(r0 ops.size false).size≤i by simpa using hi)]at h
  have a1:Ext φ H w φ H { w with drawn:=w.drawn+1 }:=⟨Z,aG.le_refl φ,fun b c=>absurd (b.symm.trans c) aB,fun _ _ _=>rfl,aE _,fun _ _=>rfl,aE _,⟨rfl,rfl,rfl,fun h=>h,fun _ cs _ _ h=>⟨cs,h,rfl⟩⟩,fun _ h=>⟨h,rfl⟩,fun _ _ O=>.inl O⟩;have v:∀y,Out N T ops d (r0 ops.size false) y↔y∈mA (dh N T ops.toList) d 0:=by
   intro y;rw[K];exact⟨fun⟨b,c,g,_⟩=>⟨b,c,g⟩,fun⟨b,c,g⟩=>⟨b,c,g,r _⟩⟩
  have hc:ob N T G ops φ H w [] d D E (r0 ops.size false) a { w with drawn:=w.drawn+1 } φ:=by
   refine⟨U,aB,fun i C h=>absurd h (r i),fun O _=>⟨fun h=>absurd h (r _),fun h=>by cases h⟩,fun x _ _ h=>absurd h (r _),NP a1 q1 be bi,W,?_,fun y m=>bc y ((v y).1 m),?_⟩
   ·intro t I a3;rw[bd t (fun u k=>a3 u ((v u).2 k))];exact V t I
   ·rintro _ _ ⟨y1,b,rfl⟩ ⟨al,c,rfl⟩ id n1 n2;exact bj _ _ (.inr ⟨y1,(v y1).1 b,rfl⟩) (.inr ⟨al,(v al).1 c,rfl⟩) id n1 n2
  exact Tk (kn:=φ) (H0:=H) (w0:=w) hT b7 q B (by rw[U];exact R) X Q ops.size _ a _ φ D E [] d hc a4 aB rfl rfl
end
section
variable {P:Program}{N:eO}{T:cg}{G:Nat}
theorem least{I:Nat→Prop}:∀ {k:Nat},I k→∃m,I m∧∀j,I j→m≤j:=by
 intro k;induction k using jD with
 |_ k d=>
  intro h;by_cases b:∃j,j<k∧I j
  ·obtain⟨j,c,a⟩:=b;exact d j c a
  ·exact⟨k,h,fun j a=>by
    rcases mj j k with h3|h3
    ·exact absurd ⟨j,h3,a⟩ b
    ·exact h3⟩
variable{h:Nat}{J:Exit→Act→World→Prop}{r:World}
open Classical in
theorem ar0{j:Fence}{c:Code}(I:Nat→Act→World→Prop)(round:∀k a r,I k a r→c.wpIn j h P (Exit.then (fun b f=>∃m,m<k∧I m b f) J) a r){k:Nat}{a:Act}(u:I k a r):(Code.loop c).wpIn j h P J a r:=by
 refine wpIn_loop (fun a r=>∃k,I k a r) (fun a r=>if g:∃k,I k a r then Classical.choose (least (I:=fun k=>I k a r) (wB g))else 0) ⟨k,u⟩ ?_;intro a r p;have s:=wB (least (I:=fun k=>I k a r) (wB p));refine wpIn_mono (round _ a r s.1) ?_;intro e b f d;cases e with
 |normal=>
  obtain⟨m,q,o⟩:=d;have i:∃k,I k b f:=⟨m,o⟩;have t:=wB (least (I:=fun k=>I k b f) (wB i));refine⟨i,?_⟩;show(if g:∃k,I k b f then Classical.choose (least (I:=fun k=>I k b f) (wB g))else 0)<(if g:∃k,I k a r then Classical.choose (least (I:=fun k=>I k a r) (wB g))else 0);rw[dif_pos i,dif_pos p];exact eY (t.2 m o) q
 |exit id=>exact d
 |goto l=>exact d
 |ret=>exact d
 |panic v=>exact d
 |outgrown=>exact d
def X.exit':X→Exit
 |.norm=>.normal
 |.exit id=>.exit id
 |.ret=>.ret
structure nH (B:Nat) (φ:aG) (H:af) (w:World) (ψ:aG) (H':af) (w':World):Prop where
 rel:Rel ψ H' w'
 le:∀ {b:Nat}{l:Loc},b<B→φ b=some l→ψ b=some l
 fresh:∀ {b:Nat}{l:Loc},(b<B→φ b=none)→ψ b=some l→B≤b∧(w.heap.size≤l.c∨∃b0 l0,φ b0=some l0∧l0.c=l.c)
 nX:∀ {b:Nat},b<B→φ b=none→(∀x y,H.get b≠ .bB x y)→H'.get b=H.get b
 next:B≤H'.next
 lU:∀ {c:Nat},c<w.heap.size→(∀b l,φ b=some l→l.c≠c)→w'.heap[c]? =w.heap[c]?
 size:w.heap.size≤w'.heap.size
 same:hN w w'
 jx:∀ {b:Nat}{l:Loc},b<B→φ b=some l→H.get b=.none→H'.get b=.none∧w'.heap[l.c]? =w.heap[l.c]?
 xK:∀(c:Nat) (x:Obj),φ.im c=some x→ψ.im c=some x
 ni:∀(c:Nat) (x:Obj),ψ.im c=some x→φ.im c=some x∨w.heap.size≤c∨∃b l,φ b=some l∧l.c=c∧H.get b≠ .none
 Gl:∀ {b b':Nat}{l l':Loc},φ b=some l→H.get b=.none→l.c<w.heap.size→ψ b'=some l'→l'.c=l.c→H'.get b'=.none
variable{o:aG}{c:af}
theorem Ext.yu{B:Nat}{p:aG}{k:af}{n:World}(h:Ext o c r p k n)(j:B≤c.next):nH B o c r p k n:=by
 refine⟨h.rel,fun _ e=>h.le _ _ e,?_,fun a u x=>h.nX (eG a j) u x,cy j h.next,h.lU,h.size,h.same,fun _ f i=>h.jx f i,h.le.im,h.ni,?_⟩
 rotate_left
 ·intro b q l A f i _ s t;by_cases a:q=b
  ·rw[a];exact(h.jx f i).1
  ·rcases h.rel.inj s (h.le b l f) t a with⟨_,_,g,_,_,bA⟩|⟨z,_⟩
   ·rw[(h.jx f i).1]at bA;cases bA
   ·exact z
 intro b l a e;cases d:o b with
 |none=>
  obtain⟨v,w⟩:=h.fresh d e;exact⟨cy j v,w⟩
 |some m=>
  refine⟨jC (fun y=>by rw[a y]at d;cases d),.inr ⟨b,m,d,?_⟩⟩;rw[h.le b m d]at e;cases e;rfl
theorem nH.full{φ:aG}{a:af}{g:World}(m:Rel φ c r)(h:nH c.next φ c r o a g):Ext φ c r o a g:=by
 have f:∀ {b:Nat}{l:Loc},φ b=some l→b<c.next:=fun{b l} e=>tI fun k=>by rw[(m.top k).1]at e;cases e
 exact⟨h.rel,⟨fun b l e=>h.le (f e) e,h.xK⟩,fun j e=>h.fresh (fun _=>j) e,h.nX,h.next,h.lU,h.size,h.same,fun d i=>h.jx (f d) d i,h.ni⟩
theorem nH.trans{B:Nat}{q R:aG}{F G:af}{P Q:World}(h:nH B o c r q F P)(d:nH B q F P R G Q):nH B o c r R G Q:=by
 have E:∀ {f:Nat}{i:Loc},q f=some i→r.heap.size≤i.c∨∃s g,o s=some g∧g.c=i.c:=by
  intro f i e;by_cases v:f<B→o f=none
  ·exact(h.fresh v e).2
  ·have K:f<B∧o f≠none:=by
    refine⟨oa fun D=>v fun k=>absurd k D,fun D=>v fun _=>D⟩
   cases n:o f with
   |none=>exact absurd n K.2
   |some g=>
    have:=h.le K.1 n;rw[this]at e;exact .inr ⟨f,g,n,by rw[Option.some.inj e]⟩
 have N:∀ {b:Nat},b<B→o b=none→q b=none:=by
  intro b a A;cases e:q b with
  |none=>rfl
  |some l=>exact absurd (h.fresh (fun _=>A) e).1 aa
 refine⟨d.rel,fun a e=>d.le a (h.le a e),?_,?_,d.next,?_,cy h.size d.size,h.same.trans d.same,fun a j w=>let⟨S,T⟩:=h.jx a j w;let⟨U,V⟩:=d.jx a (h.le a j) S;⟨U,V.trans T⟩,fun t x e=>d.xK t x (h.xK t x e),?_,?_⟩
 rotate_left 3
 ·intro t x e;rcases d.ni t x e with e|e|⟨b,l,j,w,y⟩
  ·exact h.ni t x e
  ·exact .inr (.inl (cy h.size e))
  ·rcases E j with p|⟨f,i,p,m⟩
   ·exact .inr (.inl aa)
   ·by_cases O:i.c<r.heap.size
    ·exact .inr (.inr ⟨f,i,p,m.trans w,fun u=>y (h.Gl p u O j m.symm)⟩)
    ·exact .inr (.inl aa)
 ·intro b I l W j w n y p;have O:=h.size;by_cases a:∃s g,q s=some g∧g.c=l.c
  ·obtain⟨s,g,m,u⟩:=a;exact d.Gl m (h.Gl j w n m u) aa y (p.trans u.symm)
  ·rcases(d.fresh (fun C=>by
    cases J:q I with
    |none=>rfl
    |some g=>
     have:=d.le C J;rw[y]at this;cases this;exact absurd ⟨I,W,J,p⟩ a) y).2 with m|⟨f,i,m,u⟩
   ·omega
   ·exact absurd ⟨f,i,m,u.trans p⟩ a
 ·intro b l a e;obtain⟨k,z⟩:=d.fresh (fun C=>N C (a C)) e;refine⟨k,?_⟩;rcases z with z|⟨f,i,n,j⟩
  ·exact .inl (cy h.size z)
  ·rw[←j];exact E n
 ·intro b a A L;have k:=h.nX a A L;rw[←k];exact d.nX a (N a A) (by rw[k];exact L)
 ·intro t v M;rw[←h.lU v M];refine d.lU (eG v h.size) (fun b l e=>?_);rcases E e with k|⟨s,g,k,z⟩
  ·omega
  ·rw[←z];exact M s g k
theorem k9.ext{B:Nat}{d:aG}{f:af}{j:World}(g:k9 G o)(i:G≤B)(h:nH B o c r d f j):k9 G d:=fun b a=>let⟨l,e⟩:=g b a;⟨l,h.le (eG a i) e⟩
theorem k9.next(g:k9 G o)(a:Rel o c r):G≤c.next:=by
 refine jC fun h=>?_
 obtain⟨b,e⟩:=g c.next h
 rw[(a.top (aE _)).1]at e;cases e
def Marks(a:aG)(w:World)(lo:Nat):List Deferred→Prop
 |[]=>True
 |d::ds=>(∃r,d.target=.collected r∧lo≤r∧w.heap[r]? =some (.deferred (some []))∧(∀b l,a b=some l→l.c≠r)∧(∀e∈ds,e.target≠ .collected r))∧Marks a w lo ds
theorem Marks.ext{B:Nat}{s:aG}{t:af}{q:World}(h:nH B o c r s t q){lo:Nat}:∀ {ms:List Deferred},Marks o r lo ms→Marks s q lo ms
 |[],_=>trivial
 |_::_,⟨⟨p,d,x,m,f,y⟩,z⟩=>by
  have A:p<r.heap.size:=(wz.1 m).1;refine⟨⟨p,d,x,(h.lU A f).trans m,?_,y⟩,z.ext h⟩;intro b l e;by_cases g:b<B→o b=none
  ·rcases(h.fresh g e).2 with k|⟨u,j,k,w⟩
   ·omega
   ·rw[←w];exact f u j k
  ·have n:b<B∧o b≠none:=⟨oa fun i=>g fun d=>absurd d i,fun i=>g fun _=>i⟩;cases a:o b with
   |none=>exact absurd a n.2
   |some j=>
    have:=h.le n.1 a;rw[this]at e;have v:=Option.some.inj e;rw[←v];exact f b j a
theorem Marks.lt{lo:Nat}:∀ {ms:List Deferred},Marks o r lo ms→∀d∈ms,∀a,d.target=.collected a→lo≤a∧a<r.heap.size
 |[],_,d,hd=>by cases hd
 |_::_,⟨⟨a,c,e,f,_⟩,g⟩,d,hd=>by
  intro h b;rcases g7.1 hd with rfl|hd
  ·rw[c]at b;cases b;exact⟨e,(wz.1 f).1⟩
  ·exact g.lt d hd h b
variable{a:Nat}
theorem Marks.app{lo:Nat}(g:lo≤a):∀ {ms c:List Deferred},Marks o r a ms→Marks o r lo c→(∀d∈c,∀b,d.target=.collected b→b<a)→Marks o r lo (ms++c)
 |[],_,_,h,_=>h
 |_::_,_,⟨⟨b,k,l,m,n,p⟩,q⟩,j,i=>by
  refine⟨⟨b,k,cy g l,m,n,?_⟩,Marks.app g q j i⟩;intro f hd' e;rcases gI.1 hd' with hd'|hd'
  ·exact p f hd' e
  ·have:=i f hd' b e;omega
def kU(B n:Nat)(h:aG)(H:af)(w:World)(a:Act)(Q:X→Fr→af→Prop)(e:Exit)(b:Act)(g:World):Prop:=
 ∃x d f c ms,e=X.exit' x∧nH B h H w c f g∧jF c d b.tmps∧b.tmps.size=n∧b.defers=ms++a.defers∧Marks c g w.heap.size ms∧Q x d f
def iL(P:Program)(G B n:Nat)(rd:Bool)(c:Code)(F:Fr)(H:af)(Q:X→Fr→af→Prop):Prop:=
 ∀(b:aG) (a:Act) (w:World) (d:Option Nat),(rd=false→d=none)→a.tmps.size=n→Rel b H w→jF b F a.tmps→k9 G b→G≤B→B≤H.next→c.wpIn (fw d) 0 P (kU B n b H w a Q) a w
theorem kU.mono{B:Nat}{a:Act}{Q Q':X→Fr→af→Prop}(i:∀x F c,Q x F c→Q' x F c){e:Exit}{b:Act}{d:World}(p:kU B h o c r a Q e b d):kU B h o c r a Q' e b d:=
 let⟨x,f,g,u,ms,j,k,l,m,q,s,t⟩:=p;⟨x,f,g,u,ms,j,k,l,m,q,s,i _ _ _ t⟩
variable{m:Fr}
theorem kU.here{B:Nat}{a:Act}{Q:X→Fr→af→Prop}(x:X)(f:a.tmps.size=h)(g:Rel o c r)(e:jF o m a.tmps)(d:B≤c.next)(b:Q x m c):kU B h o c r a Q x.exit' a r:=
 ⟨x,m,c,o,[],rfl,(Ext.refl g).yu d,e,f,rfl,trivial,b⟩
theorem kU.after{B:Nat}{f:aG}{H:af}{b:World}{a i:Act}{ms:List Deferred}(k:nH B o H r f c b)(y:i.defers=ms++a.defers)(l:Marks f b r.heap.size ms){Q:X→Fr→af→Prop}{e:Exit}{g:Act}{m:World}(p:kU B h f c b i Q e g m):kU B h o H r a Q e g m:=by
 obtain⟨x,q,s,E,C,t,j,g3,u,v,w,br⟩:=p;refine⟨x,q,s,E,C++ms,t,k.trans j,g3,u,by rw[v,y,eJ],Marks.app k.size w (l.ext j) (fun d z D A=>(l.lt d z D A).2),br⟩
section
variable {B n:Nat}{rd:Bool}{F:Fr}{H:af}{Q Q':X→Fr→af→Prop}
theorem iL.mono{c:Code}(k:∀x F H,Q x F H→Q' x F H)(h:iL P G B n rd c F H Q):iL P G B n rd c F H Q':=fun _ _ _ _ b d e f g i j=>wpIn_mono (h _ _ _ _ b d e f g i j) fun _ _ _=>kU.mono k
theorem DL(h:Q .norm F H):iL P G B n rd .skip F H Q:=fun _ _ _ _ _ a b c _ _ d=>wpIn_skip (kU.here .norm a b c d h)
theorem DF(h:Q .norm F H):iL P G B n rd (.label a) F H Q:=fun _ _ _ _ _ b c d _ _ e=>wpIn_label (kU.here .norm b c d e h)
theorem DI(h:Q .ret F H):iL P G B n rd .ret F H Q:=fun _ _ _ _ _ a b c _ _ d=>wpIn_ret (kU.here .ret a b c d h)
theorem DE{id:Nat}(h:Q (.exit id) F H):iL P G B n rd (.exit id) F H Q:=fun _ _ _ _ _ a b c _ _ d=>wpIn_exit (kU.here (.exit id) a b c d h)
def fq(K:Fr→af→Prop)(Q:X→Fr→af→Prop):X→Fr→af→Prop
 |.norm,F,H=>K F H
 |x,F,H=>Q x F H
theorem DK{k l:Code}(h:iL P G B n rd k F H (fq (fun q r=>iL P G B n rd l q r Q) Q)):iL P G B n rd (.seq k l) F H Q:=by
 intro C a w z m s t u o g v;refine wpIn_seq (wpIn_mono (h _ _ _ _ m s t u o g v) ?_);rintro e y A ⟨x,i,j,p,ms,rfl,b,g3,c,d,f,br⟩;cases x with
 |norm=>exact wpIn_mono (br _ _ _ _ m c b.rel g3 (o.ext g b) g b.next) fun _ _ _=>kU.after b d f
 |exit id=>exact⟨.exit id,i,j,p,ms,rfl,b,g3,c,d,f,br⟩
 |ret=>exact⟨.ret,i,j,p,ms,rfl,b,g3,c,d,f,br⟩
variable{k:Operand}
theorem yS{c d:Code}{f:Fr→V}{t:Bool}(p:uq G n k=true)(r:hD k=some f)(q:f F=.bool t)(h:iL P G B n rd (if t then c else d) F H Q):iL P G B n rd (.cond k c d) F H Q:=by
 intro v a w s j e l g i o m;have b:=Qk g i (by rw[e];exact GZ p) r;rw[q]at b;refine wpIn_cond (t:=t) ?_ (h _ _ _ _ j e l g i o m);generalize a.eval k=u at b
 cases b;rfl
def iT(id:Nat)(Q:X→Fr→af→Prop):X→Fr→af→Prop
 |.exit i,F,H=>if i=id then Q .norm F H else Q (.exit i) F H
 |x,F,H=>Q x F H
theorem DD{id:Nat}{c:Code}(h:iL P G B n rd c F H (iT id Q)):iL P G B n rd (.block id c) F H Q:=by
 intro q a w A r s t u v z y;refine wpIn_block (wpIn_mono (h _ _ _ _ r s t u v z y) ?_);rintro e o p ⟨x,b,d,m,ms,rfl,f,g3,g,j,k,br⟩;cases x with
 |norm=>exact⟨.norm,b,d,m,ms,rfl,f,g3,g,j,k,br⟩
 |ret=>exact⟨.ret,b,d,m,ms,rfl,f,g3,g,j,k,br⟩
 |exit i=>
  show(if i=id then kU B n q H w a Q .normal o p else kU B n q H w a Q (.exit i) o p);have l:if i=id then Q .norm b d else Q (.exit i) b d:=br
  by_cases hi:i=id
  ·rw[ak hi]at l⊢;exact⟨.norm,b,d,m,ms,rfl,f,g3,g,j,k,l⟩
  ·rw[aj hi]at l⊢;exact⟨.exit i,b,d,m,ms,rfl,f,g3,g,j,k,l⟩
theorem DG{c:Code}(I:Nat→Fr→af→Prop)(ab:∀k F H,I k F H→iL P G B n rd c F H (fq (fun f g=>∃m,m<k∧I m f g) Q)){k:Nat}(N:I k F H):iL P G B n rd (.loop c) F H Q:=by
 intro A a w ro O R S T U z V;refine ar0 (fun k i v=>∃f g o ms,I k f g∧nH B A H w o g v∧jF o f i.tmps∧i.tmps.size=n∧i.defers=ms++a.defers∧Marks o v w.heap.size ms) ?_ (k:=k) ⟨F,H,A,[],N,(Ext.refl S).yu V,T,R,rfl,trivial⟩;rintro k i v ⟨f,g,o,ms,D,b,E,J,K,y⟩;refine wpIn_mono (ab k f g D _ _ _ _ O J b.rel E (U.ext z b) z b.next) ?_
 rintro e C w' ⟨x,p,q,l,h,rfl,j,g3,s,L,M,br⟩;have u:Marks l w' w.heap.size (h++ms):=Marks.app b.size M (y.ext j) (fun d X r Z=>(y.lt d X r Z).2);have t:C.defers=(h++ms)++a.defers:=by rw[L,K,eJ]
 cases x with
 |norm=>
  obtain⟨m,Y,W⟩:=br;exact⟨m,Y,p,q,l,h++ms,W,b.trans j,g3,s,t,u⟩
 |exit id=>exact⟨.exit id,p,q,l,h++ms,rfl,b.trans j,g3,s,t,u,br⟩
 |ret=>exact⟨.ret,p,q,l,h++ms,rfl,b.trans j,g3,s,t,u,br⟩
variable{p:Bool}
theorem DH(hT:cR P T)(b7:jU P N)(fY:P.follows .mixedOrders=true){id:Nat}{b:Array Oper}{l:List c3}(u:lW (nx G n) b.toList=true)(v:plan N T b.toList p=some l)(h:gz P G l F H (Q .norm)):iL P G B n rd (.region id b p) F H Q:=by
 intro E a w C z c m q r A s;refine apc hT b7 fY (by rw[c];exact fun o t=>uf.1 u o t) m q r v h ?_;intro x y D d e f g i j k;exact⟨.norm,d,e,x,[],rfl,f.yu s,g,i.trans c,j,trivial,k⟩
theorem DJ{c:Code}(h:iL P G B n false c F H Q):iL P G B n false (.scope c) F H Q:=by
 intro t a w r i j k l m p o;cases i rfl;refine(wpIn_wide (n:=0)).2 (wp_scope_straight ((wpIn_wide (n:=0)).1 (wpIn_mono (h _ _ _ _ (fun _=>rfl) j k l m p o) ?_)));rintro e q s ⟨x,b,d,f,ms,rfl,g⟩;cases x with
 |norm=>exact⟨.norm,b,d,f,ms,rfl,g⟩
 |exit id=>exact⟨.exit id,b,d,f,ms,rfl,g⟩
 |ret=>exact⟨.ret,b,d,f,ms,rfl,g⟩
end
theorem auM(a:Rel o c r)(x:Obj):Ext o c r o c (r.alloc x):=by
 have k:∀ {d:Nat},d<r.heap.size→(r.alloc x).heap[d]? =r.heap[d]? :=by
  intro d h;show(r.heap.push x)[d]? =_;simp[wA,Nat.ne_of_lt h]
 have w:(r.alloc x).heap.size=r.heap.size+1:=by show(r.heap.push x).size=_;simp
 have m:∀ {d i:Nat},d<r.heap.size→(r.alloc x).cell? ⟨d,i,none⟩=r.cell? ⟨d,i,none⟩:=by
  intro d i h;unfold World.cell?;rw[k h]
 have t:∀ {d i:Nat},d<r.heap.size→(r.alloc x).frozen? ⟨d,i,none⟩=r.frozen? ⟨d,i,none⟩:=by
  intro d i h;unfold World.frozen?;rw[k h]
 refine⟨⟨?_,?_,a.len,a.inj,a.top,?_,a.mem,a.mF,?_,fun e=>(a.fC e).keep (k (a.fC e).lt) (a.fC e).off,a.mG⟩,aG.le_refl o,fun f j=>absurd (f.symm.trans j) aB,fun _ _ _=>rfl,aE _,fun h _=>k h,aa,hN.alloc r x,fun f j=>⟨j,k (a.loc f)⟩,fun _ _ e=>.inl e⟩
 ·intro b l u g i v f j n p;rw[m (a.loc f)];exact a.cell f j n p
 ·intro b l i f j;rw[m (a.loc f),t (a.loc f)];exact a.room f j
 ·intro b l f;have:=a.loc f;omega
 ·intro b l y f j;obtain⟨q,s⟩:=a.ck f j;exact⟨q,s.mono (aG.le_refl o) (k (a.loc f))⟩
theorem agN(d:Rel o c r)(n:∀b l,o b=some l→l.c≠a)(C:∀m t p,r.heap[a]? ≠some (.cells m t p))(x:Obj):Rel o c (j6 r a x):=by
 have D:(j6 r a x).heap.size=r.heap.size:=by simp[j6]
 have q:∀ {j i:Nat},j≠a→(j6 r a x).cell? ⟨j,i,none⟩=r.cell? ⟨j,i,none⟩:=by
  intro j i h;unfold World.cell?;rw[ny (fun e=>h e.symm)]
 have B:∀ {j i:Nat},j≠a→(j6 r a x).frozen? ⟨j,i,none⟩=r.frozen? ⟨j,i,none⟩:=by
  intro j i h;unfold World.frozen?;rw[ny (fun e=>h e.symm)]
 refine⟨?_,?_,d.len,d.inj,d.top,?_,d.mem,d.mF,?_,fun{j y} e=>(d.fC e).keep (ny (fun s=>by
  obtain⟨m,t,p,k⟩:=(d.fC e).kind;refine C m t p ?_;rw[s,←k];exact(d.fC e).obj) x) (d.fC e).off,d.mG⟩
 ·intro b l m g i v f k u w;rw[q (n b l f)];exact d.cell f k u w
 ·intro b l i f k;rw[q (n b l f),B (n b l f)];exact d.room f k
 ·intro b l f;rw[D];exact d.loc f
 ·intro b l E f k;obtain⟨z,A⟩:=d.ck f k;exact⟨z,A.mono (aG.le_refl o) (ny (fun e=>n b l f e.symm) x)⟩
theorem ahk:∀(a:List V) (i:Nat) (F:Fr) (t:Nat),(lR a i F).get V.undef t=if i≤t∧t<i+a.length then(a[t-i]?).getD V.undef else F.get V.undef t:=by
 intro a;induction a with
 |nil=>intro i F t;rw[aj aB];rfl
 |cons v a d=>
  intro i F t;show(lR a (i+1) (F.set V.undef i v)).get V.undef t=_;rw[d,aO.aK];simp only[cL];by_cases b:i=t
  ·subst b;rw[aj aa,ak rfl,ak aa];simp
  ·by_cases c:i+1≤t∧t<i+1+a.length
   ·rw[ak c,ak aa];have:t-i=(t-(i+1))+1:=aa;rw[this];simp
   ·rw[aj c,aj b,aj aa]
def x2(tmps:Array Value):ResultVar→Sem Value
 |.tmp t=>pure (tmps.getD t undef)
 |.cell a t=>do loadVar t (←asAddr (tmps.getD a undef))
theorem apI(a:Addr)(w:World):(asAddr (.pointer (some a))).run P w=.ok a w:=rfl
variable{b:List V}
theorem apj(hT:cR P T){tmps:Array Value}(K:Rel o c r)(w:jF o m tmps){i:Func}(p:∀x∈i.results.toList,Hz tmps.size x=true)(h:rP T m c i.results.toList=some b):
 ∃k,(results i tmps).run P r=.ok k r∧aJ o (oK b) k:=by
 have key:∀(f:List ResultVar),(∀x∈f,Hz tmps.size x=true)→∀b,rP T m c f=some b→∃d,(f.mapM (x2 tmps)).run P r=.ok d r∧bm o b d:=by
  intro f;induction f with
  |nil=>intro _ b h;cases h;exact⟨[],rfl,.nil⟩
  |cons x f N=>
   intro p b h;obtain⟨v,j,h⟩:=av.1 (show ao (HA T m c x) (fun v=>ao (rP T m c f) fun Q=>some (v::Q))=some b from h);obtain⟨O,I,h⟩:=av.1 h;cases h;obtain⟨d,l,n⟩:=N (fun y M=>p y (by simp[M])) O I;have z:=p x aB;cases x with
   |tmp t=>
    cases j;refine⟨tmps.getD t undef::d,?_,.cons (w t ((eZ _ _).1 z)) n⟩;rw[List.mapM_cons];simp only[x2,cU,fO,dV];rw[l];rfl
   |cell a t=>
    obtain⟨g,G,j⟩:=av.1 (show ao (T.isAgg t) _=some v from j);obtain⟨s,L,j⟩:=av.1 j;obtain⟨R,B,k,C,D⟩:=Pw hT K G L (w a ((eZ _ _).1 z)) j;refine⟨k::d,?_,.cons D n⟩;rw[List.mapM_cons];have E:(x2 tmps (.cell a t)).run P r=.ok k r:=by
     simp only[x2,cU,B,apI,dV,C]
    rw[cU,E];simp only[dV,cU,l,fO]
 obtain⟨d,l,n⟩:=key _ p b h;have J:(i.results.mapM (x2 tmps)).run P r=.ok ⟨d⟩ r:=by
  rw[Array.mapM_eq_mapM_toList];simp only[Sem.run_map,l,dV]
 refine⟨if h:(⟨d⟩:Array Value).size=1 then(⟨d⟩:Array Value)[0]else .tuple ⟨d⟩,?_,?_⟩
 ·have e:results i tmps=(do let u←i.results.mapM (x2 tmps);pure (if h:u.size=1 then u[0]else .tuple u)):=rfl;rw[e,cU,J];rfl
 ·cases n with
  |nil=>exact .az .nil
  |cons a q=>cases q with
   |nil=>simpa [oK]using a
   |cons q A=>
    rw[dif_neg aB];exact .az (.cons a (.cons q A))
theorem al7{p:Func}{tmps:Array Value}{φ:aG}{H H':af}{w:World}{R:Ending→World→Prop}{ψ:aG}{v:V}(J:∀a,Rel ψ H' a→∃g,(results p tmps).run P a=.ok g a∧aJ ψ v g)(E:∀g a,Ext φ H w ψ H' a→aJ ψ v g→R (.returned g) a):
 ∀(ms:List Deferred) (a:World),Ext φ H w ψ H' a→Marks ψ a w.heap.size ms→LeavesInM (fw none) 0 P p tmps R ms .returning a:=by
 intro ms;induction ms with
 |nil=>
  intro a f _;obtain⟨g,m,q⟩:=J a f.rel;exact⟨g,m,E g a f q⟩
 |cons d ms n=>
  rintro a f ⟨⟨r,m,q,i,s,C⟩,D⟩;have N:r<a.heap.size:=(wz.1 i).1;refine⟨aB,.inl ⟨r,j6 a r (.deferred none),m,run_takeDeferred i,n _ ?_ ?_⟩⟩
  ·refine⟨agN f.rel s (fun L t M e=>by rw[i]at e;cases e) _,f.le,f.fresh,f.nX,f.next,?_,?_,f.same.trans (HM i rfl aB _),fun{b l} o y=>let⟨h,k⟩:=f.jx o y;⟨h,(ny (fun e=>s b l (f.le b l o) e.symm) _).trans k⟩,f.ni⟩
   ·intro c F I;rw[ny aa];exact f.lU F I
   ·show w.heap.size≤(j6 a r (.deferred none)).heap.size;have:(j6 a r (.deferred none)).heap.size=a.heap.size:=by simp[j6]
    rw[this];exact f.size
  ·have key:∀(ms:List Deferred),(∀j∈ms,j.target≠ .collected r)→Marks ψ a w.heap.size ms→Marks ψ (j6 a r (.deferred none)) w.heap.size ms:=by
    intro ms;induction ms with
    |nil=>exact fun _ _=>trivial
    |cons x ms n=>
     rintro u ⟨⟨K,h,k,g3,z,A⟩,B⟩;refine⟨⟨K,h,k,?_,z,A⟩,n (fun j G=>u j (by simp[G])) B⟩;rw[ny ?_]
     ·exact g3
     ·intro e;subst e;exact u x aB h
   exact key ms C D
variable{D:List Value}
theorem apk(h:bm o b D)(m:b.length≤a):jF o (lR b 0 .nil) ((⟨D⟩:Array Value)++r0 (a-(⟨D⟩:Array Value).size) undef):=by
 have l:=h.length;intro t j;have i:((⟨D⟩:Array Value)++r0 (a-(⟨D⟩:Array Value).size) undef).size=a:=by simp;omega
 show aJ o ((lR b 0 aO.nil).get V.undef t) _;rw[ahk];rw[i]at j;by_cases g:t<b.length
 ·rw[ak aa];obtain⟨u,k,c,d,e⟩:=h.getD g;rw[Nat.sub_zero,c];have:((⟨D⟩:Array Value)++r0 (a-(⟨D⟩:Array Value).size) undef).getD t undef=k:=by
   have f:=(fN.1 d).2;simp[Array.getElem?_append,(aa:t<D.length),f]
  show aJ o u _;rw[this];exact e
 ·rw[aj aa,aO.get_nil];have:((⟨D⟩:Array Value)++r0 (a-(⟨D⟩:Array Value).size) undef).getD t undef=undef:=by
   simp[Array.getElem?_append,(aa:¬t<D.length)];rw[Array.getElem?_replicate];split<;>rfl
  rw[this];exact .az .nil
variable{A:FuncId}{I:V→af→Prop}
theorem Ee(hT:cR P T)(b7:jU P N){fn:Func}{g:Code}(L:N.get aM A=some fn)(o:fn.body=some g)(a:and (sJ G fn g) (bM (cr b) fn.ntmps)=true)
 (h:iL P G c.next fn.ntmps false g (lR b 0 .nil) c fun x k d=>(∀id,x≠ .exit id)∧∃l,rP T k d fn.results.toList=some l∧I (oK l) d):fk P G (.fn A) b c I:=by
 rw[cu,eZ,gO]at a;obtain⟨a,M⟩:=a;unfold sJ at a;rw[cu,cu]at a;obtain⟨O,ab,S⟩:=a;have p:=b7 A fn L;refine⟨⟨fn,g,p,o,by simpa using O⟩,?_⟩;intro j w f hr q m;have Z:=m.length;have U:((⟨f⟩:Array Value)++r0 (fn.ntmps-(⟨f⟩:Array Value).size) undef).size=fn.ntmps:=by simp;omega
 refine(callsIn_wide (n:=0)).1 (callsIn_of_wp_marks (F:=fw none) p o trivial ?_ rfl);refine wpIn_mono (h j { tmps:=(⟨f⟩:Array Value)++r0 (fn.ntmps-(⟨f⟩:Array Value).size) undef,defers:=[] } w none (fun _=>rfl) U hr (apk m M) q (q.next hr) (aE _)) ?_
 rintro e i s ⟨x,k,d,t,ms,rfl,u,g3,v,z,B,E,l,C,D⟩;have J:i.defers=ms:=by rw[z];simp
 have r:LeavesInM (fw none) 0 P fn i.tmps (Post j c w I) i.defers .returning s:=by
  rw[J];refine al7 (ψ:=t) (H':=d) (v:=oK l) (φ:=j) (H:=c) (w:=w) ?_ ?_ ms s (u.full hr) B
  ·intro Y R;exact apj hT R g3 (by rw[v];exact fun y W=>uf.1 S y W) C
  ·intro X Y K V;exact⟨oK l,X,d,t,rfl,K,V,D⟩
 cases x with
 |norm=>exact r
 |ret=>exact r
 |exit id=>exact absurd rfl (E id)
end
section
variable {P:Program}{N:eO}{T:cg}{G:Nat}{O:jR}
def oP(P:Program)(G:Nat)(cf:jR):Prop:=∀ {t b H v a},cf t b H=some (v,a)→fk P G t b H fun d c=>d=v∧c=a
theorem P4:oP P G qI:=fun h=>by cases h
def yP(P:Program)(G:Nat)(run:u0):Prop:=∀ {B n:Nat}{rd:Bool}{c:Code}{F:Fr}{H:af}{x:X}{a:Fr}{b:af},codeOk G n c=true→run n rd c F H=.ok x a b→
 iL P G B n rd c F H fun f d e=>f=x∧d=a∧e=b
variable{m:Fr}{c:af}
theorem andThen_ok{r:iw}{k:Fr→af→iw}{x:X}(h:andThen r k=.ok x m c):(∃a b,r=.ok .norm a b∧k a b=.ok x m c)∨(r=.ok x m c∧x≠ .norm):=by
 cases r with
 |fail=>cases h
 |ok y a b=>
  cases y with
  |norm=>exact .inl ⟨a,b,rfl,h⟩
  |exit id=>cases h;exact .inr ⟨rfl,aB⟩
  |ret=>cases h;exact .inr ⟨rfl,aB⟩
variable{H:af}{e:Fr→af→Prop}
theorem aqy{cf:jR}(z:oP P G cf){s:Step}{d:Fr}(h:exec cf s m c=some (d,H))(i:e d H):jq P G s m c e:=by
 cases a:s.want m with
 |none=>unfold exec at h;rw[a]at h;cases h
 |some b=>
  cases b with
  |false=>
   unfold exec at h;rw[a]at h;cases h;exact .inl ⟨a,i⟩
  |true=>
   refine .inr ⟨a,?_⟩;have C:=h;unfold exec at h;rw[a]at h;cases f:s.cop with
   |call j g=>
    have p:ao (g (vals j m)) (fun k=>ao (cf k.1 k.2 c) fun r=>some (put m s.dst r.1,r.2))=some (d,H):=by simpa [f]using h
    obtain⟨⟨t,l⟩,q,u⟩:=av.1 p;obtain⟨⟨v,A⟩,w,y⟩:=av.1 u;cases y;exact⟨t,l,q,(z w).mono fun D B ⟨n,o⟩=>by rw[n,o];exact i⟩
   |mN x=>simp[f]at h
   |bad=>simp[f]at h
   |pu j g=>exact⟨d,H,by unfold exec;rw[a];simpa [f]using h,i⟩
   |rd j g=>exact⟨d,H,by unfold exec;rw[a];simpa [f]using h,i⟩
   |gB j g=>exact⟨d,H,by unfold exec;rw[a];simpa [f]using h,i⟩
theorem apK{cf:jR}(g:oP P G cf):∀ {l:List c3}{F a:Fr}{H b:af}{Q:Fr→af→Prop},s5 cf l F H=some (a,b)→Q a b→gz P G l F H Q:=by
 intro l;induction l with
 |nil=>intro F a H b Q h c;cases h;exact c
 |cons i l f=>
  intro F a H b Q h c;cases i with
  |ex s=>
   obtain⟨⟨j,k⟩,d,e⟩:=av.1 (show ao (exec cf s F H) (fun r=>s5 cf l r.1 r.2)=some (a,b)from h);exact aqy g d (f e c)
  |re s=>
   obtain⟨d,e⟩:=cH.1 (show aQ (again s F H) (s5 cf l F H)=some (a,b)from h);exact⟨Tc d,f e c⟩
variable{A:FuncId}{b:List V}
theorem T4(hT:cR P T)(b7:jU P N){run:u0}(p:yP P G run){v:V}(h:Ed G N T run A b c=some (v,H)):fk P G (.fn A) b c fun q a=>q=v∧a=H:=by
 obtain⟨d,o,h⟩:=av.1 (show ao (N.get aM A) _=some (v,H)from h);obtain⟨i,m,h⟩:=av.1 h;obtain⟨j,h⟩:=cH.1 h;have k:=j;rw[cu]at k;have n:codeOk G d.ntmps i=true:=by
  have:=k.1;unfold sJ at this;rw[cu,cu]at this;exact this.2.1
 cases f:run d.ntmps false i (lR b 0 .nil) c with
 |fail=>rw[f]at h;cases h
 |ok x s t=>
  rw[f]at h;refine Ee hT b7 o m j ((p n f).mono ?_);rintro r g a ⟨rfl,rfl,rfl⟩;cases r with
  |exit id=>cases h
  |norm=>
   obtain⟨l,hl,e⟩:=av.1 (show ao (rP T g a d.results.toList) (fun l=>some (oK l,a))=some (v,H)from h);cases e;exact⟨aB,l,hl,rfl,rfl⟩
  |ret=>
   obtain⟨l,hl,e⟩:=av.1 (show ao (rP T g a d.results.toList) (fun l=>some (oK l,a))=some (v,H)from h);cases e;exact⟨aB,l,hl,rfl,rfl⟩
theorem Ks(hT:cR P T)(b7:jU P N)(e:oP P G O){run:u0}(g:yP P G run):oP P G (w6 G N T O run):=by
 intro t b H v d h
 have a:Option.casesOn (motive:=fun _=>Option (V×af)) (O t b H)
  (o3.casesOn (motive:=fun _=>Option (V×af)) t (fun f=>Ed G N T run f b H)) some=some (v,d):=h
 cases c:O t b H with
 |some r=>
  rw[c]at a;cases a;exact e c
 |none=>
  rw[c]at a;cases t with
  |fn f=>exact T4 hT b7 g a
theorem apJ(hT:cR P T)(b7:jU P N)(X:oP P G O)(fY:P.follows .mixedOrders=true):∀a,yP P G (run G N T O a):=by
 intro a;induction a using jD with
 |_ a S=>
  cases a with
  |zero=>intro B n rd c F H x g j _ h;cases h
  |succ a=>
   have o:yP P G (run G N T O a):=S a aa;intro B n rd c F H x g j v h;have Y:oP P G (w6 G N T O (run G N T O a)):=Ks hT b7 X o;cases c with
   |skip=>cases h;exact DL ⟨rfl,rfl,rfl⟩
   |region id U M=>
    have b:Q9 (ao (plan N T U.toList M) fun l=>s5 (w6 G N T O (run G N T O a)) l F H)=.ok x g j:=h;cases J:ao (plan N T U.toList M) (fun l=>s5 (w6 G N T O (run G N T O a)) l F H)with
    |none=>rw[J]at b;cases b
    |some q=>
     rw[J]at b;cases b;obtain⟨l,Z,I⟩:=av.1 J;exact DH hT b7 fY v Z (apK Y I ⟨rfl,rfl,rfl⟩)
   |seq s u=>
    have k:and (codeOk G n s) (codeOk G n u)=true:=v;rw[cu]at k;refine DK ?_;rcases andThen_ok (show andThen (run G N T O a n rd s F H) (run G N T O a n rd u)=.ok x g j from h)with⟨w,A,p,d⟩|⟨p,d⟩
    ·refine(o k.1 p).mono ?_;rintro r z C ⟨rfl,rfl,rfl⟩;exact o k.2 d
    ·refine(o k.1 p).mono ?_;rintro r z C ⟨rfl,rfl,rfl⟩;cases r with
     |norm=>exact absurd rfl d
     |exit id=>exact⟨rfl,rfl,rfl⟩
     |ret=>exact⟨rfl,rfl,rfl⟩
   |cond y s u=>
    have k:and (uq G n y) (and (codeOk G n s) (codeOk G n u))=true:=v;rw[cu,cu]at k;have b:HK (run G N T O a n rd) y s u F H=.ok x g j:=h;unfold HK at b;cases L:hD y with
    |none=>rw[L]at b;cases b
    |some f=>
     rw[L]at b;have d:(match f F with|.bool t=>Bool.casesOn (motive:=fun _=>iw) t (run G N T O a n rd u F H) (run G N T O a n rd s F H)|_=>.fail)=.ok x g j:=b;cases Q:f F<;>rw[Q]at d<;>first|(cases d;done)|skip
     rename_i t;refine yS k.1 L Q ?_;cases t with
     |true=>exact o k.2.1 d
     |false=>exact o k.2.2 d
   |block id c=>
    have b:OP id (run G N T O a n rd c F H)=.ok x g j:=h;have D:codeOk G n c=true:=v;refine DD ?_;cases K:run G N T O a n rd c F H with
    |fail=>rw[K]at b;cases b
    |ok y w A=>
     rw[K]at b;refine(o D K).mono ?_;rintro r z C ⟨rfl,rfl,rfl⟩;cases r with
     |norm=>cases b;exact⟨rfl,rfl,rfl⟩
     |ret=>cases b;exact⟨rfl,rfl,rfl⟩
     |exit i=>
      have d:Bool.casesOn (motive:=fun _=>iw) (bn i id) (.ok (.exit i) z C) (.ok .norm z C)=iw.ok x g j:=b;show if i=id then _ else _
      by_cases E:i=id
      ·rw[(beq_eq _ _).2 E]at d;cases d;rw[ak E];exact⟨rfl,rfl,rfl⟩
      ·rw[mY.2 (fun e=>E ((beq_eq _ _).1 e))]at d;cases d;rw[aj E];exact⟨rfl,rfl,rfl⟩
   |loop c=>
    have D:codeOk G n c=true:=v;refine DG (fun m w A=>m≤a+1∧run G N T O m n rd (.loop c) w A=.ok x g j) ?_ (k:=a+1) ⟨aE _,h⟩;rintro m w A ⟨hm,I⟩;cases m with
    |zero=>cases I
    |succ m=>
     have R:yP P G (run G N T O m):=S m aa;rcases andThen_ok (show andThen (run G N T O m n rd c w A) (run G N T O m n rd (.loop c))=.ok x g j from I)with⟨z,C,p,d⟩|⟨p,d⟩
     ·refine(R D p).mono ?_;rintro r V W ⟨rfl,rfl,rfl⟩;exact⟨m,aa,aa,d⟩
     ·refine(R D p).mono ?_;rintro r V W ⟨rfl,rfl,rfl⟩;cases r with
      |norm=>exact absurd rfl d
      |exit id=>exact⟨rfl,rfl,rfl⟩
      |ret=>exact⟨rfl,rfl,rfl⟩
   |rangeFunc _ _ _ _=>cases h
   |exit id=>cases h;exact DE ⟨rfl,rfl,rfl⟩
   |label l=>cases h;exact DF ⟨rfl,rfl,rfl⟩
   |ret=>cases h;exact DI ⟨rfl,rfl,rfl⟩
   |scope c=>
    cases rd with
    |true=>cases h
    |false=>exact DJ (o (show codeOk G n c=true from v) (show run G N T O a n false c F H=.ok x g j from h))
   |goto _=>cases h
   |refuse _=>cases h
theorem Kw(hT:cR P T)(b7:jU P N)(b:oP P G O)(fY:P.follows .mixedOrders=true)(a:Nat):oP P G (Ec G N T O a):=Ks hT b7 b (apJ hT b7 b fY a)
end
variable{f:Type}
theorem aq5:∀(l:List f) (k:Nat) (t:aO (Option f)) (i:Nat),(wm l k t).get none i=if k≤i∧i<k+l.length then l[i-k]? else t.get none i:=by
 intro l;induction l with
 |nil=>intro k t i;rw[aj aB];rfl
 |cons a l d=>
  intro k t i;show(wm l (k+1) (t.set none k (some a))).get none i=_;rw[d,aO.aK];simp only[cL];by_cases b:k=i
  ·subst b;rw[aj aa,ak rfl,ak aa];simp
  ·by_cases c:k+1≤i∧i<k+1+l.length
   ·rw[ak c,ak aa];have:i-k=(i-(k+1))+1:=aa;rw[this];simp
   ·rw[aj c,aj b,aj aa]
variable{a:Nat}
theorem Sa{l:List f}{x:f}(h:(wm l 0 .nil).get none a=some x):l[a]? =some x:=by
 rw[aq5]at h;split at h
 ·simpa using h
 ·rw[aO.get_nil]at h;cases h
theorem ahh(P:Program):jU P (Of P):=by
 intro f a h;have:=Sa (show(wm P.funcs.toList 0 .nil).get none f=some a from h);simpa using this
theorem arp(P:Program):cR P (Sg P):=by
 refine⟨?_⟩;intro t i h;have b:=Sa (show(wm P.types.toList 0 .nil).get none t=some i from h);have a:P.types[t]? =some i:=by simpa using b
 have c:t<P.types.size:=(wz.1 a).1;unfold Tables.info?;rw[ak c];exact a
def aG.view(a:aG)(c:Nat→Nat)(k:Nat):aG:=⟨fun b=>if b<k then a (c b)else none,a.im⟩
variable{o:aG}{h:Nat}
theorem aG.Sv{b:Nat→Nat}:o.view b a h=if h<a then o (b h)else none:=rfl
theorem aG.nF{c:Nat→Nat}{l:Loc}(b:o.view c a h=some l):h<a∧o (c h)=some l:=by
 rw[aG.Sv]at b;split at b
 ·exact⟨by assumption,b⟩
 ·cases b
theorem aG.tr{b:Nat→Nat}{l:Loc}(d:h<a)(c:o (b h)=some l):o.view b a h=some l:=by
 rw[aG.Sv,ak d];exact c
mutual
inductive gV (σ:Nat→Nat) (k:Nat):V→V→Prop
 |bool (b:Bool):gV σ k (.bool b) (.bool b)
 |int (i:IntKind) (n:Int):gV σ k (.int i n) (.int i n)
 |str (s:List UInt8):gV σ k (.str s) (.str s)
 |ptr {b:Nat} (o:Nat) (h:b<k):gV σ k (.ptr (σ b) o) (.ptr b o)
 |iW:gV σ k .iW .iW
 |slice {b:Nat} (o len:Nat) (cap:Cap) (h:b<k):gV σ k (.slice (σ b) o len cap) (.slice b o len cap)
 |aqf {b:Nat} (o len:Nat) (cap:Cap) (h:b<k):gV σ k (.slice (σ b) o len cap) (.slice b o len .nw)
 |an:gV σ k .an .an
 |emp:gV σ k .emp .emp
 |map {b:Nat} (h:b<k):gV σ k (.map (σ b)) (.map b)
 |j3:gV σ k .j3 .j3
 |func (f:FuncId) {xs ys xs' ys':List V} (h1:jW σ k xs xs') (h2:jW σ k ys ys'):gV σ k (.func f xs ys) (.func f xs' ys')
 |kJ:gV σ k .kJ .kJ
 |kK:gV σ k .kK .kK
 |agg {xs xs':List V} (h:jW σ k xs xs'):gV σ k (.agg xs) (.agg xs')
 |az {xs xs':List V} (h:jW σ k xs xs'):gV σ k (.az xs) (.az xs')
 |any (v:V):gV σ k v .any
 |cell {v:V} (h:v.one=true):gV σ k v .cell
 |row (n:Nat) {cs cs':List V} (h:jW σ k cs cs'):gV σ k (.row n cs) (.row n cs')
 |fK:gV σ k .an (.row 0 [])
 |CD:gV σ k .emp (.row 0 [])
 |CC:gV σ k .gM (.row 0 [])
 |cY (j:Nat) {cs cs':List V} (h:jW σ k cs cs'):gV σ k (.cY cs j) (.cY cs' j)
 |gM:gV σ k .gM .gM
inductive jW (σ:Nat→Nat) (k:Nat):List V→List V→Prop
 |nil:jW σ k [] []
 |cons {v v':V}{vs vs':List V} (h:gV σ k v v') (h':jW σ k vs vs'):jW σ k (v::vs) (v'::vs')
end
mutual
theorem aJ.view{φ:aG}{σ:Nat→Nat}{k:Nat}:∀ {v v2:V}{v':Value},gV σ k v v2→aJ φ v v'→aJ (φ.view σ k) v2 v'
 |_,_,_,.bool b,.bool _=>.bool b
 |_,_,_,.int i n,.int _ _=>.int i n
 |_,_,_,.str s,.str _=>.str s
 |_,_,_,.ptr o h,.ptr e=>.ptr (aG.tr h e)
 |_,_,_,.iW,.iW=>.iW
 |_,_,_,.slice o len cap h,.slice e h1 h2=>.slice (aG.tr h e) h1 h2
 |_,_,_,.aqf o len cap h,.slice e h1 _=>.slice (aG.tr h e) h1 trivial
 |_,_,_,.an,.an=>.an
 |_,_,_,.emp,.emp a c=>.emp a c
 |_,_,_,.map h,.map e=>.map (aG.tr h e)
 |_,_,_,.j3,.j3=>.j3
 |_,_,_,.func f h1 h2,.func _ g1 g2=>.func f (bm.view h1 g1) (bm.view h2 g2)
 |_,_,_,.kJ,.kJ=>.kJ
 |_,_,_,.kK,.kK=>.kK
 |_,_,_,.agg h,.agg g=>.agg (bm.view h g)
 |_,_,_,.az h,.az g=>.az (bm.view h g)
 |_,_,v',.any _,_=>.any v'
 |_,_,_,.cell h,g=>.cell (Qg g h)
 |_,_,_,.row _ .nil,.eW a c h=>.eW a c h
 |_,_,_,.row _ h,.row e g1 g2 g3=>.row e (bm.view h g1) g2 g3
 |_,_,_,.fK,.an=>.eW none 0 (fun _=>rfl)
 |_,_,_,.CD,.emp a c=>.eW (some a) c (fun h=>by cases h)
 |_,_,_,.CC,.gM a=>.eW a 0 (fun _=>rfl)
 |_,_,_,.cY _ h,.cY e g1 g2=>.cY e (bm.view h g1) g2
 |_,_,_,.gM,.gM a=>.gM a
theorem bm.view{φ:aG}{σ:Nat→Nat}{k:Nat}:∀ {a b:List V}{c:List Value},jW σ k a b→bm φ a c→bm (φ.view σ k) b c
 |_,_,_,.nil,.nil=>.nil
 |_,_,_,.cons h h',.cons g g'=>.cons (aJ.view h g) (bm.view h' g')
end
section
variable {P:Program}{G B n:Nat}{rd:Bool}{c:Code}{F Dn:Fr}{H H2:af}{Q:X→Fr→af→Prop}
end
section
variable {G:Nat}{σ:Nat→Nat}{φ ψ:aG}{H H2 H':af}{w w':World}
end
section
variable {P:Program}{G:Nat}
end
def tu(n:Nat):V→V→Bool:=
 Nat.rec (motive:=fun _=>V→V→Bool) (fun _ _=>false) (fun _ c a b=>match a with
  |.any=>(match b with|.any=>true|_=>false)
  |.cell=>(match b with|.cell=>true|_=>false)
  |.func f x y=>(match b with|.func g z t=>and (bn f g) (and (fQ c x z) (fQ c y t))|_=>false)
  |.agg x=>(match b with|.agg y=>fQ c x y|_=>false)
  |.az x=>(match b with|.az y=>fQ c x y|_=>false)
  |a=>rX 1 a b) n
theorem Iv:∀n a b,tu n a b=true→a=b:=by
 intro n;induction n with
 |zero=>intro a b h;cases h
 |succ n d=>
  intro a b h;cases a<;>first|exact It 1 _ _ h|skip
  case any=>cases b<;>first|rfl|cases h
  case cell=>cases b<;>first|rfl|cases h
  case func f x y=>
   cases b<;>first|(cases h;done)|skip
   have c:and (bn _ _) (and (fQ (tu n) _ _) (fQ (tu n) _ _))=true:=h;rw[cu,cu,beq_eq]at c;rw[c.1,nZ d _ _ c.2.1,nZ d _ _ c.2.2]
  case agg x=>
   cases b<;>first|(cases h;done)|skip
   rw[nZ d _ _ h]
  case az x=>
   cases b<;>first|(cases h;done)|skip
   rw[nZ d _ _ h]
def GW(a b:Option Nat):Bool:=match a with
 |some x=>(match b with|some y=>bn x y|_=>false)
 |.none=>(match b with|.none=>true|_=>false)
variable{i:Option Nat}
theorem anS{a:Option Nat}(h:GW a i=true):a=i:=by
 cases a<;>cases i<;>first|rfl|(cases h;done)|skip
 exact congrArg some ((beq_eq _ _).1 h)
variable{d:List Nat}
theorem anc{a:List Nat}(h:fQ bn a d=true):a=d:=nZ (fun _ _ h=>(beq_eq _ _).1 h) _ _ h
abbrev xo:Nat:=12
def Qp(a b:oh):Bool:=match a with
 |.map e=>(match b with|.map f=>fQ (fun x y=>and (tu xo x.1 y.1) (tu xo x.2 y.2)) e f|_=>false)
 |.iter m s l c t=>(match b with|.iter h i g d j=>and (and (bn m h) (bn s i)) (and (fQ bn l g) (and (GW c d) (bn t j)))|_=>false)
 |.ro _=>false
theorem an0{a b:oh}(h:Qp a b=true):a=b:=by
 cases a<;>cases b<;>first|(cases h;done)|skip
 case map.map o p=>
  refine congrArg oh.map (nZ (fun x y h=>?_) _ _ h);have d:and (tu xo x.1 y.1) (tu xo x.2 y.2)=true:=h;rw[cu]at d;exact Prod.ext (Iv _ _ _ d.1) (Iv _ _ _ d.2)
 case iter.iter m s l c t j k i e n=>
  have d:and (and (bn m j) (bn s k)) (and (fQ bn l i) (and (GW c e) (bn t n)))=true:=h;rw[cu,cu,cu,cu,beq_eq,beq_eq,beq_eq]at d;obtain⟨⟨rfl,rfl⟩,f,g,rfl⟩:=d;rw[anc f,anS g]
def u9(a b:cP):Bool:=match a with
 |.none=>(match b with|.none=>true|_=>false)
 |.cells c g=>(match b with|.cells d e=>and (bn g e) (fQ (tu xo) c d)|_=>false)
 |.bB x y=>(match b with|.bB h i=>and (bn x h) (bn y i)|_=>false)
 |.ck o=>(match b with|.ck f=>Qp o f|_=>false)
theorem DS{a b:cP}(h:u9 a b=true):a=b:=by
 cases a<;>cases b<;>first|rfl|(cases h;done)|skip
 case cells.cells d g e f=>
  have c:and (bn g f) (fQ (tu xo) d e)=true:=h;rw[cu,beq_eq]at c;rw[c.1,nZ (Iv _) _ _ c.2]
 case bB.bB x y i j=>
  have c:and (bn x i) (bn y j)=true:=h;rw[cu,beq_eq,beq_eq]at c;rw[c.1,c.2]
 case ck.ck o k=>exact congrArg cP.ck (an0 h)
section
mutual
inductive bR (H H2:af):V→V→Prop
 |same (v:V):bR H H2 v v
 |any (v:V):bR H H2 v .any
 |row {b o n m:Nat}{cap:Cap}{cs jt:List V} (h:H.cS b o m=some cs) (h0:0<m) (h1:H2.get b=.none) (h2:cD H H2 cs jt):bR H H2 (.slice b o n cap) (.row n jt)
 |eW (b o:Nat) (cap:Cap):bR H H2 (.slice b o 0 cap) (.row 0 [])
 |fK:bR H H2 .an (.row 0 [])
 |CD:bR H H2 .emp (.row 0 [])
 |CC:bR H H2 .gM (.row 0 [])
 |agg {xs ys:List V} (h:cD H H2 xs ys):bR H H2 (.agg xs) (.agg ys)
 |az {xs ys:List V} (h:cD H H2 xs ys):bR H H2 (.az xs) (.az ys)
inductive cD (H H2:af):List V→List V→Prop
 |nil:cD H H2 [] []
 |cons {x y:V}{xs ys:List V} (h:bR H H2 x y) (h':cD H H2 xs ys):cD H H2 (x::xs) (y::ys)
end
theorem cD.refl{H H2:af}:∀l:List V,cD H H2 l l
 |[]=>.nil
 |v::l=>.cons (.same v) (cD.refl l)
def uQ(φ:aG)(H H2:af)(w:World)(c:Nat):Prop:=∃b l,φ b=some l∧l.c=c∧H.get b≠ .none∧H2.get b=.none∧∃a t d,w.heap[c]? =some (.cells a t d)
open Classical in
def aG.di(φ:aG)(H H2:af)(w:World):aG:=⟨φ.f,fun c=>if uQ φ H H2 w c then w.heap[c]? else φ.im c⟩
variable{r:World}
theorem FY{H H2:af}(h:uQ o H H2 r a):(o.di H H2 r).im a=r.heap[a]? :=ak h
theorem FZ{H H2:af}(h:¬uQ o H H2 r a):(o.di H H2 r).im a=o.im a:=aj h
section
variable {P:Program}{φ:aG}{H H2:af}{w:World}
theorem vq(a:Rel φ H w):φ.le (φ.di H H2 w):=by
 refine⟨fun _ _ e=>e,fun c x e=>?_⟩;by_cases h:uQ φ H H2 w c
 ·rw[FY h];exact(a.fC e).obj
 ·rw[FZ h];exact e
structure Cut (B:Nat) (H H2:af):Prop where
 sub:∀y,H2.get y=H.get y∨(B≤y∧H2.get y=.none)
 next:H2.next=H.next
 bB:∀y y' cs cs' g,g≠0→H.get y=.cells cs g→H.get y'=.cells cs' g→H2.get y=.none→H2.get y'=.none
theorem Cut.old{B:Nat}(a:Cut B H H2){y:Nat}(h:H2.get y≠ .none):H2.get y=H.get y:=(a.sub y).resolve_right fun e=>h e.2
theorem Cut.low{B:Nat}(b:Cut B H H2)(h:a<B):H2.get a=H.get a:=(b.sub a).resolve_right fun e=>aa
theorem Rel.cut{B:Nat}(h:Rel φ H w)(f:Cut B H H2):Rel (φ.di H H2 w) H2 w:=by
 have G:=vq (H2:=H2) h;have s:∀ {y:Nat}{p:List V}{g:Nat},H2.get y=.cells p g→H.get y=.cells p g:=fun{y p g} e=>by rw[←f.old (y:=y) (by rw[e];simp)];exact e
 have A:∀ {y a b:Nat},H2.get y=.bB a b→H.get y=.bB a b:=fun{y a b} e=>by rw[←f.old (y:=y) (by rw[e];simp)];exact e
 refine⟨?_,h.room,fun j d=>h.len j (s d),?_,?_,h.loc,fun j d k=>h.mem (s j) d (A k),fun e=>h.mF (A e),?_,?_,fun e=>by rw[f.next];exact h.mG (s e)⟩
 ·intro b l p g i v j d k u;have hl:H.fR b g=true:=by
   rcases gq.1 k with e|⟨a,c,K,L⟩
   ·exact gq.2 (.inl e)
   ·exact gq.2 (.inr ⟨a,c,A K,L⟩)
  obtain⟨U,m,n⟩:=h.cell j (s d) hl u;exact⟨U,m,n.mono G⟩
 ·intro b E l C j d k u;rcases h.inj j d k u with⟨p,J,g,m,n,r⟩|⟨T,D⟩
  ·by_cases q:H2.get b=.none
   ·exact .inr ⟨q,f.bB _ _ _ _ _ m n r q⟩
   ·have Q:H2.get E≠ .none:=fun e=>q (f.bB _ _ _ _ _ m r n e)
    exact .inl ⟨p,J,g,m,by rw[f.old q];exact n,by rw[f.old Q];exact r⟩
  ·refine .inr ⟨?_,?_⟩
   ·rcases f.sub b with e|e
    ·rw[e];exact T
    ·exact e.2
   ·rcases f.sub E with e|e
    ·rw[e];exact D
    ·exact e.2
 ·intro b q;rw[f.next]at q
  obtain⟨m,n⟩:=h.top q;refine⟨m,?_⟩;rcases f.sub b with e|e
  ·rw[e];exact n
  ·exact e.2
 ·intro b l o j d;have k:H.get b=.ck o:=by rw[←f.old (y:=b) (by rw[d];simp)];exact d
  obtain⟨M,N⟩:=h.ck j k;exact⟨M,N.mono G rfl⟩
 ·intro c x e;by_cases z:uQ φ H H2 w c
  ·rw[FY z]at e;obtain⟨b,l,m,n,r,F,p,t,O,P⟩:=z;refine⟨e,⟨p,t,O,Option.some.inj (e.symm.trans P)⟩,?_⟩;intro y C j d;by_cases I:y=b
   ·subst I;exact F
   ·rcases h.inj j m (d.trans n.symm) I with⟨W,X,g,R,S,bA⟩|⟨_,D⟩
    ·exact f.bB _ _ _ _ _ R bA S F
    ·exact absurd D r
  ·rw[FZ z]at e;refine(h.fC e).keep rfl ?_;intro y C j d;have:=(h.fC e).off y C j d;rcases f.sub y with k|k
   ·rw[k];exact this
   ·exact k.2
theorem Rel.xy{B:Nat}(k:Rel φ H w)(d:Cut B H H2)(t:B≤H.next):nH B φ H w (φ.di H H2 w) H2 w:=by
 refine⟨k.cut d,fun _ e=>e,?_,?_,by rw[d.next];exact t,fun _ _=>rfl,aE _,hN.refl w,?_,fun c x e=>(vq k).im c x e,?_,?_⟩
 rotate_left 3
 ·intro c x e;by_cases n:uQ φ H H2 w c
  ·obtain⟨b,l,h,i,s,_⟩:=n;exact .inr (.inr ⟨b,l,h,i,s⟩)
  ·rw[FZ n]at e;exact .inl e
 ·intro b f l y o m _ p r;have q:φ f=some y:=p;have v:H.get f=.none:=by
   by_cases a:f=b
   ·rw[a];exact m
   ·rcases k.inj q o r a with⟨_,_,g,_,_,bA⟩|⟨z,_⟩
    ·rw[m]at bA;cases bA
    ·exact z
  rcases d.sub f with e|e
  ·rw[e];exact v
  ·exact e.2
 ·intro b l h i;have j:φ b=some l:=i;refine⟨jC fun u=>?_,.inr ⟨b,l,j,rfl⟩⟩;rw[h u]at j;cases j
 ·intro b a _ _;exact d.low a
 ·intro b l a _ e;exact⟨by rw[d.low a];exact e,rfl⟩
mutual
theorem aJ.di{B:Nat}(hr:Rel φ H w)(hc:Cut B H H2):∀ {v v2:V}{v':Value},bR H H2 v v2→aJ φ v v'→aJ (φ.di H H2 w) v2 v'
 |_,_,_,.same _,r=>r.mono (vq hr)
 |_,_,v',.any _,_=>.any v'
 |_,_,_,.eW _ _ _,.slice _ _ _=>.eW _ _ (fun h=>by cases h)
 |_,_,_,.fK,.an=>.eW none 0 (fun _=>rfl)
 |_,_,_,.CD,.emp a c=>.eW (some a) c (fun h=>by cases h)
 |_,_,_,.CC,.gM a=>.eW a 0 (fun _=>rfl)
 |_,_,_,.agg h,.agg g=>.agg (bm.di hr hc h g)
 |_,_,_,.az h,.az g=>.az (bm.di hr hc h g)
 |_,_,_,.row (cs:=cs) h h0 h1 h2,.slice (l:=l) hb hl hcap=>by
  obtain⟨vs',e1,e2,Bq⟩:=xO hr hb h;have hlt:0<vs'.length:=aa;have hcell:=Bq 0 _ (cn hlt);have vw:∃x,w.heap[l.c]? =some x∧∃cs t fr,x=.cells cs t fr:=by
   unfold World.cell? at hcell;cases ho:w.heap[l.c]? with
   |none=>simp only[ho]at hcell;cases hcell
   |some x=>
    refine⟨x,rfl,?_⟩;simp only[ho]at hcell;cases x<;>first|(cases hcell;done)|exact⟨_,_,_,rfl⟩
  obtain⟨x,hx,cs0,t,fr,aiK⟩:=vw;have hne:H.get _≠ .none:=fun e=>by
   obtain⟨UY,k1,_⟩:=av.1 h;obtain⟨g,k2,_⟩:=cells?_some k1;rw[e]at k2;cases k2
  have hg:uQ φ H H2 w l.c:=⟨_,l,hb,rfl,hne,h1,cs0,t,fr,by rw[hx,aiK]⟩;refine .row (by rw[FY hg];exact hx) (bm.di hr hc h2 e2) ?_ hl;intro i v hi w2 c2 aiJ;have:=Bq i v hi;unfold World.cell? at this⊢;simp only[hx]at this;simp only[aiJ];exact this
theorem bm.di{B:Nat}(hr:Rel φ H w)(hc:Cut B H H2):∀ {a b:List V}{c:List Value},cD H H2 a b→bm φ a c→bm (φ.di H H2 w) b c
 |_,_,_,.nil,.nil=>.nil
 |_,_,_,.cons h h',.cons g g'=>.cons (aJ.di hr hc h g) (bm.di hr hc h' g')
end
end
section
variable {P:Program}{G B n:Nat}{rd:Bool}{c:Code}{F Dn:Fr}{H H2:af}{Q:X→Fr→af→Prop}
theorem S1(b:Cut B H H2)(p:∀t,t<n→bR H H2 (F.get V.undef t) (Dn.get V.undef t))(h:iL P G B n rd c Dn H2 Q):iL P G B n rd c F H Q:=by
 intro φ a w r l f g m o j i;have d:=g.xy b i;refine wpIn_mono (h _ a w r l f d.rel (fun t k=>aJ.di g b (p t (by rw[←f];exact k)) (m t k)) (o.ext j d) j (by rw[b.next];exact i)) ?_
 intro e s u q;exact kU.after (ms:=[]) d rfl trivial q
end
end
def af.zero(G:Nat):af:=⟨.nil,G⟩
theorem af.e7(G b:Nat):(af.zero G).get b=.none:=aO.get_nil _ _
mutual
inductive bz:V→Prop
 |bool (b:Bool):bz (.bool b)
 |int (k:IntKind) (n:Int):bz (.int k n)
 |str (s:List UInt8):bz (.str s)
 |iW:bz .iW
 |an:bz .an
 |emp:bz .emp
 |j3:bz .j3
 |func (f:FuncId) {xs ys:List V} (h1:bY xs) (h2:bY ys):bz (.func f xs ys)
 |kJ:bz .kJ
 |kK:bz .kK
 |agg {xs:List V} (h:bY xs):bz (.agg xs)
 |az {xs:List V} (h:bY xs):bz (.az xs)
 |any:bz .any
 |cell:bz .cell
 |row (n:Nat) {xs:List V} (h:bY xs):bz (.row n xs)
 |cY (k:Nat) {xs:List V} (h:bY xs):bz (.cY xs k)
 |gM:bz .gM
inductive bY:List V→Prop
 |nil:bY []
 |cons {v:V}{vs:List V} (h:bz v) (h':bY vs):bY (v::vs)
end
theorem bY.iff:∀ {l:List V},bY l↔∀v∈l,bz v
 |[]=>⟨fun _ v h=>by simp at h,fun _=>.nil⟩
 |v::l=>⟨fun h x hx=>by
   cases h with
   |cons h a=>
    rcases g7.1 hx with rfl|hx
    ·exact h
    ·exact bY.iff.1 a x hx,fun h=>.cons (h v aB) (bY.iff.2 fun x hx=>h x (by simp[hx]))⟩
mutual
theorem aJ.free{φ ψ:aG}(hi:∀c x,φ.im c=some x→ψ.im c=some x):∀ {v:V}{v':Value},bz v→aJ φ v v'→aJ ψ v v'
 |_,_,.bool _,.bool b=>.bool b
 |_,_,.int _ _,.int k n=>.int k n
 |_,_,.str _,.str s=>.str s
 |_,_,.iW,.iW=>.iW
 |_,_,.an,.an=>.an
 |_,_,.emp,.emp a c=>.emp a c
 |_,_,.j3,.j3=>.j3
 |_,_,.func _ h1 h2,.func f g1 g2=>.func f (bm.free hi h1 g1) (bm.free hi h2 g2)
 |_,_,.kJ,.kJ=>.kJ
 |_,_,.kK,.kK=>.kK
 |_,_,.agg h,.agg g=>.agg (bm.free hi h g)
 |_,_,.az h,.az g=>.az (bm.free hi h g)
 |_,v',.any,.any _=>.any v'
 |_,_,.cell,.cell h=>.cell h
 |_,_,.row _ _,.eW a c h=>.eW a c h
 |_,_,.row _ h,.row e g1 g2 g3=>.row (hi _ _ e) (bm.free hi h g1) g2 g3
 |_,_,.cY _ h,.cY e g1 g2=>.cY (hi _ _ e) (bm.free hi h g1) g2
 |_,_,.gM,.gM a=>.gM a
theorem bm.free{φ ψ:aG}(hi:∀c x,φ.im c=some x→ψ.im c=some x):∀ {a:List V}{c:List Value},bY a→bm φ a c→bm ψ a c
 |_,_,.nil,.nil=>.nil
 |_,_,.cons h h',.cons g g'=>.cons (aJ.free hi h g) (bm.free hi h' g')
end
section
variable {P:Program}{G:Nat}{φ:aG}{H:af}{w:World}
theorem Rel.zero(f:Rel φ H w):Rel (φ.view id G) (af.zero G) w:=by
 have a:∀ {b:Nat}{o:cP},(af.zero G).get b=o→o=.none:=fun{b o} e=>by rw[af.e7]at e;exact e.symm
 refine⟨?_,?_,?_,?_,?_,?_,?_,?_,?_,?_,?_⟩
 ·intro b l d g i v _ e;cases a e
 ·intro b l i e h;exact f.room (aG.nF e).2 h
 ·intro b l d g _ e;cases a e
 ·intro b n l p _ _ _ _;exact .inr ⟨af.e7 _ _,af.e7 _ _⟩
 ·intro b k;refine⟨?_,af.e7 _ _⟩;exact aj (Nat.not_lt.2 (show G≤b from k))
 ·intro b l e;exact f.loc (aG.nF e).2
 ·intro b d g m j e;cases a e
 ·intro g m j e;cases a e
 ·intro b l o _ e;cases a e
 ·intro c x e;exact(f.fC e).keep rfl fun _ _ _ _=>af.e7 _ _
 ·intro b d g e;cases a e
variable{A:FuncId}{b:List V}
theorem pJ{R:V→Prop}(Y:bY b)
 (t:fk P G (.fn A) b (af.zero G) fun N n=>∃v,bR n (af.zero n.next) N v∧bz v∧R v) (H:af):
 fk P G (.fn A) b H fun v n=>R v∧n=H:=by
 refine⟨t.1,fun φ w Q j hg Z=>(t.2 (φ.view id G) w Q j.zero ?_ (bm.free (φ:=φ) (ψ:=φ.view id G) (fun _ _ e=>e) Y Z)).mono ?_⟩
 ·intro g K;obtain⟨ap,e⟩:=hg g K;exact⟨ap,aG.tr K e⟩
 ·rintro e s ⟨N,v',n,O,rfl,p,am,v,ac,ab,X⟩;have ae:∀y,y<G→n.get y=.none:=by
   intro y z;cases d:φ.view id G y with
   |some l=>exact(p.jx d (af.e7 _ _)).1
   |none=>
    rw[p.nX z d (fun a q m=>by rw[af.e7]at m;cases m)];exact af.e7 _ _
  have C:Cut G n (af.zero n.next):=⟨fun y=>by
   by_cases z:y<G
   ·exact .inl (by rw[ae y z,af.e7])
   ·exact .inr ⟨jC z,af.e7 _ _⟩,rfl,fun _ _ _ _ _ _ _ _ _=>af.e7 _ _⟩
  have L:=p.rel.cut C;have D:nH G (φ.view id G) (af.zero G) w (O.di n (af.zero n.next) s) (af.zero n.next) s:=(p.yu (aE G)).trans (p.rel.xy C p.next)
  have M:=aJ.di p.rel C ac am;generalize O.di n (af.zero n.next) s=r at L D M
  have u:∀ {k:Nat},k<w.heap.size→s.heap[k]? =w.heap[k]? :=by
   intro k t;by_cases I:∃q l,φ.view id G q=some l∧l.c=k
   ·obtain⟨q,l,d,rfl⟩:=I;exact(p.jx d (af.e7 _ _)).2
   ·exact p.lU t (fun q l d m=>I ⟨q,l,d,m⟩)
  have J:∀k x,r.im k=some x→φ.im k=some x∨w.heap.size≤k:=by
   intro k x e;rcases D.ni k x e with h|h|⟨q,l,_,_,h⟩
   ·exact .inl h
   ·exact .inr h
   ·exact absurd (af.e7 _ _) h
  have E:φ.le ⟨φ.f,r.im⟩:=⟨fun _ _ e=>e,D.xK⟩;have al:Rel ⟨φ.f,r.im⟩ H s:=by
   refine⟨?_,fun d m=>p.same.free (j.room d m),j.len,j.inj,j.top,fun d=>eG (j.loc d) p.size,j.mem,j.mF,?_,?_,j.mG⟩
   ·intro q l cs g i x d m S T;obtain⟨x',B,F⟩:=j.cell d m S T;refine⟨x',?_,F.mono E⟩;unfold World.cell? at B⊢;rw[u (j.loc d)];exact B
   ·intro q l o d m;obtain⟨B,F⟩:=j.ck d m;exact⟨B,F.mono E (u (j.loc d))⟩
   ·intro k x e;have hi:=L.fC e;refine⟨hi.obj,hi.kind,fun q l d m=>?_⟩;rcases J k x e with h|h
    ·exact(j.fC h).off q l d m
    ·have:=j.loc d;omega
  refine⟨v,v',H,⟨φ.f,r.im⟩,rfl,⟨al,E,fun U W=>absurd (U.symm.trans W) aB,fun _ _ _=>rfl,aE _,fun h _=>u h,p.size,p.same,fun d m=>⟨m,u (j.loc d)⟩,fun k x e=>?_⟩,aJ.free (φ:=r) (ψ:=⟨φ.f,r.im⟩) (fun _ _ e=>e) ab M,X,rfl⟩;rcases J k x e with h|h
  ·exact .inl h
  ·exact .inr (.inl h)
end
inductive aP where
 |skip|ret|exit (id:Nat)|bN (l:List c3)|seq (a b:aP)|cond (x:Fr→V) (a b:aP)|block (id:Nat) (b:aP)|loop (b:aP)
 |cut (B n:Nat) (b:aP)
def comp(N:eO)(T:cg)(c:Code):Option aP:=
 Code.rec (motive:=fun _=>Option aP) (some .skip) (fun _ e d=>ao (plan N T e.toList d) fun l=>some (.bN l)) (fun _ _ a b=>ao a fun a=>ao b fun b=>some (.seq a b))
  (fun x _ _ a b=>ao (hD x) fun x=>ao a fun a=>ao b fun b=>some (.cond x a b)) (fun id _ b=>ao b fun b=>some (.block id b)) (fun _ b=>ao b fun b=>some (.loop b))
  (fun _ _ _ _ _ _=>aM) (fun id=>some (.exit id)) (fun _ b=>b) (fun _=>some .skip) (fun _=>aM) (some .ret) (fun _=>aM) c
inductive gy where
 |tmp (t:Nat)|cell (a:Nat) (agg:Bool) (size:Nat)
def A4(T:cg)(l:List ResultVar):Option (List gy):=
 List.rec (motive:=fun _=>Option (List gy)) (some []) (fun r _ b=>ao (match r with
  |.tmp t=>some (gy.tmp t)
  |.cell a t=>ao (T.isAgg t) fun g=>ao (iQ T t) fun s=>some (gy.cell a g s)) fun r=>ao b fun l=>some (r::l)) l
def sC(G:Nat)(N:eO)(T:cg)(a:Func):Option (aP×List gy):=
 ao a.body fun c=>aQ (sJ G a c) (ao (comp N T c) fun k=>ao (A4 T a.results.toList) fun r=>some (k,r))
def r4(v:V)(p q:Prop):Prop:=match v with
 |.bool true=>p
 |.bool false=>q
 |_=>False
def SP(B n:Nat)(F:Fr)(H:af)(K:Fr→af→Prop):Prop:=
 ∃b a,Cut B H a∧(∀t,t<n→bR H a (F.get V.undef t) (b.get V.undef t))∧K b a
def wp(P:Program)(G:Nat):aP→Fr→af→(X→Fr→af→Prop)→Prop
 |.skip,F,H,Q=>Q .norm F H
 |.ret,F,H,Q=>Q .ret F H
 |.exit id,F,H,Q=>Q (.exit id) F H
 |.bN l,F,H,Q=>gz P G l F H (Q .norm)
 |.seq a b,F,H,Q=>wp P G a F H (fq (fun c d=>wp P G b c d Q) Q)
 |.cond x a b,F,H,Q=>r4 (x F) (wp P G a F H Q) (wp P G b F H Q)
 |.block id b,F,H,Q=>wp P G b F H (iT id Q)
 |.loop b,F,H,Q=>∃(I:Nat→Fr→af→Prop) (k:Nat),I k F H∧∀k F H,I k F H→wp P G b F H (fq (fun c d=>∃m,m<k∧I m c d) Q)
 |.cut B n b,F,H,Q=>SP B n F H fun e f=>wp P G b e f Q
section
variable {P:Program}{G B n:Nat}{N:eO}{T:cg}
variable{m:Fr}{c:af}{F:X→Fr→af→Prop}
theorem AL{rd:Bool}{d:Code}{b:X→Fr→af→Prop}(h:∀x m c,F x m c→b x m c)(o:iL P G B n rd d m c F):iL P G B n rd d m c b:=
 fun q a w p e f g i j k l=>wpIn_mono (o q a w p e f g i j k l) fun _ _ _=>kU.mono h
theorem ar1(hT:cR P T)(b7:jU P N)(fY:P.follows .mixedOrders=true):∀(c:Code) (k:aP),comp N T c=some k→codeOk G n c=true→∀(F:Fr) (H:af) (Q:X→Fr→af→Prop),wp P G k F H Q→iL P G B n false c F H Q:=by
 intro c;induction c with
 |skip=>intro k d _ F H Q h;cases d;exact DL h
 |region id L E=>
  intro k d j F H Q h;obtain⟨l,K,d⟩:=av.1 (show ao (plan N T L.toList E) (fun l=>some (aP.bN l))=some k from d);cases d;exact DH hT b7 fY j K h
 |seq a b u v=>
  intro k d j F H Q h;obtain⟨x,o,d⟩:=av.1 (show ao (comp N T a) (fun x=>ao (comp N T b) fun y=>some (aP.seq x y))=some k from d);obtain⟨y,t,d⟩:=av.1 d;cases d;obtain⟨q,r⟩:=(cu _ _).mp (show and (codeOk G n a) (codeOk G n b)=true from j);refine DK (AL (fun e C D g=>?_) (u x o q F H _ h));cases e with
  |norm=>exact v y t r C D Q g
  |ret=>exact g
  |exit i=>exact g
 |cond x a b u v=>
  intro k d j F H Q h;obtain⟨f,z,d⟩:=av.1 (show ao (hD x) (fun f=>ao (comp N T a) fun x=>ao (comp N T b) fun y=>some (aP.cond f x y))=some k from d);obtain⟨A,o,d⟩:=av.1 d;obtain⟨y,t,d⟩:=av.1 d;cases d;obtain⟨w,J⟩:=(cu _ _).mp (show and (uq G n x) (and (codeOk G n a) (codeOk G n b))=true from j);obtain⟨q,r⟩:=(cu _ _).mp J;have p:r4 (f F) (wp P G A F H Q) (wp P G y F H Q):=h;unfold r4 at p;split at p
  ·rename_i e;exact yS w z e (u A o q F H Q p)
  ·rename_i e;exact yS w z e (v y t r F H Q p)
  ·exact p.elim
 |block id b s=>
  intro k d j F H Q h;obtain⟨x,o,d⟩:=av.1 (show ao (comp N T b) (fun x=>some (aP.block id x))=some k from d);cases d;exact DD (s x o j F H _ h)
 |loop b s=>
  intro k d j F H Q h;obtain⟨x,o,d⟩:=av.1 (show ao (comp N T b) (fun x=>some (aP.loop x))=some k from d);cases d;obtain⟨I,m,q,r⟩:=h;exact DG I (fun m F H hi=>s x o j F H _ (r m F H hi)) q
 |rangeFunc g M a b _ _=>intro k d;cases d
 |exit id=>intro k d _ F H Q h;cases d;exact DE h
 |scope b s=>intro k d j F H Q h;exact DJ (s k d j F H Q h)
 |label l=>intro k d _ F H Q h;cases d;exact DF h
 |goto l=>intro k d;cases d
 |ret=>intro k d _ F H Q h;cases d;exact DI h
 |refuse l=>intro k d;cases d
def lF(F:Fr)(H:af)(l:List gy):Option (List V):=
 List.rec (motive:=fun _=>Option (List V)) (some []) (fun r _ b=>ao (match r with
  |.tmp t=>some (F.get V.undef t)
  |.cell a g s=>iq g s [F.get V.undef a] H) fun v=>ao b fun l=>some (v::l)) l
theorem Cy:∀ {l:List ResultVar}{r:List gy},A4 T l=some r→rP T m c l=lF m c r:=by
 intro l;induction l with
 |nil=>intro r h;cases h;rfl
 |cons x l j=>
  intro r h;obtain⟨y,b,h⟩:=av.1 h;obtain⟨k,i,h⟩:=av.1 h;cases h;have e:rP T m c (x::l)=ao (HA T m c x) fun v=>ao (rP T m c l) fun r=>some (v::r):=rfl
  rw[e,j i];cases x with
  |tmp t=>cases b;rfl
  |cell a t=>
   obtain⟨g,d,b⟩:=av.1 b;obtain⟨s,f,b⟩:=av.1 b;cases b;show ao (ao (T.isAgg t) fun g=>ao (iQ T t) fun s=>iq g s [aO.lS V.undef (path a) m] c) _=_;rw[d,f];rfl
def qg(Q:V→af→Prop)(H:af)(r:Option (List V)):Prop:=match r with
 |some l=>Q (oK l) H
 |aM=>False
def gk(a:List gy)(Q:V→af→Prop):X→Fr→af→Prop
 |.ret,F,H=>qg Q H (lF F H a)
 |.norm,F,H=>qg Q H (lF F H a)
 |.exit _,_,_=>False
variable{A:FuncId}{M:aP}{b:List V}{I:V→af→Prop}
theorem T5(hT:cR P T)(b7:jU P N)(fY:P.follows .mixedOrders=true){k:Func}{f:List gy}(t:N.get aM A=some k)(a:sC G N T k=some (M,f))
 (hl:bM (cr b) k.ntmps=true) (h:wp P G M (lR b 0 .nil) c (gk f I)):fk P G (.fn A) b c I:=by
 obtain⟨o,q,a⟩:=av.1 a;cases m:sJ G k o with
 |false=>rw[m]at a;cases a
 |true=>
  rw[m]at a;obtain⟨v,u,a⟩:=av.1 (show ao (comp N T o) (fun M=>ao (A4 T k.results.toList) fun r=>some (M,r))=some (M,f)from a);obtain⟨w,p,a⟩:=av.1 a;cases a;have s:codeOk G k.ntmps o=true:=by
   unfold sJ at m;rw[cu,cu]at m;exact m.2.1
  refine Ee hT b7 t q (by rw[m,hl];rfl) (AL (fun x n j g=>?_) (ar1 hT b7 fY o M u s _ _ _ h));cases x with
  |exit i=>exact g.elim
  |norm=>
   refine⟨aB,?_⟩;have d:qg I j (lF n j f):=g;cases e:lF n j f with
   |none=>rw[e]at d;exact d.elim
   |some l=>rw[e]at d;exact⟨l,(Cy p).trans e,d⟩
  |ret=>
   refine⟨aB,?_⟩;have d:qg I j (lF n j f):=g;cases e:lF n j f with
   |none=>rw[e]at d;exact d.elim
   |some l=>rw[e]at d;exact⟨l,(Cy p).trans e,d⟩
end
def rd(t:Nat)(F:Fr):V:=F.get V.undef t
def kc(v:V)(_:Fr):V:=v
@[go_sem]theorem auZ(v:V)(F:Fr):kc v F=v:=rfl
@[go_sem↓]theorem Ht(u t:Nat)(v:V)(F:Fr):rd u (put F (some t) v)=if t=u then v else rd u F:=oI F t u v
@[go_sem]theorem awe(u:Nat):rd u .nil=V.undef:=aO.get_nil _ _
@[go_sem]theorem av'(v:V)(F:Fr):put F none v=F:=rfl
@[go_sem]theorem auT(i:Nat)(F:Fr):lR [] i F=F:=rfl
@[go_sem]theorem auS(v:V)(l:List V)(i:Nat)(F:Fr):lR (v::l) i F=lR l (i+1) (put F (some i) v):=rfl
attribute [go_sem] kR
attribute [go_sem↓] reduceIte
def ex(d:Nat)(c:bP):c3:=.ex ⟨fun _=>some true,some d,c⟩
def bE(c:bP):c3:=.ex ⟨fun _=>some true,none,c⟩
def bF(j:Nat)(b:Bool)(d:Nat)(c:bP):c3:=.ex ⟨fun F=>nj b (rd j F),some d,c⟩
def re(d:Nat)(c:bP):c3:=.re ⟨fun _=>some true,some d,c⟩
def rg(j:Nat)(b:Bool)(d:Nat)(c:bP):c3:=.re ⟨fun F=>nj b (rd j F),some d,c⟩
def hU(a:BinOp):IntKind→Int→IntKind→Int→Option aY:=match BV a with|some f=>f|none=>fun _ _ _ _=>none
def qp(a:BinOp):List UInt8→List UInt8→Option aY:=match CV a with|some f=>f|none=>fun _ _=>none
def mv(x:Fr→V):bP:=.pu [x] PL
def bS(x:Fr→V):bP:=.gB [x] Jl
def pick(a b c:Fr→V):bP:=.pu [a,b,c] zW
def Tf(a:List V)(l:List V):Option aY:=match l with|[]=>some (.new a .ptr)|_=>none
def alloc(a:List V):bP:=.pu [] (Tf a)
def DZ(l:List V):Option aY:=match l with|[v]=>aQ (bg v) (some (.new (cellsOf v) .ptr))|_=>none
def box(x:Fr→V):bP:=.pu [x] DZ
def bi(a:BinOp)(x y:Fr→V):bP:=.pu [x,y] (g9 (hU a))
def bs(a:BinOp)(x y:Fr→V):bP:=.pu [x,y] (pQ (qp a))
def be(neg:Bool)(d:TypeDesc)(x y:Fr→V):bP:=.pu [x,y] (ox neg d)
def bp(a:Bool)(b:Nat)(x:Fr→V):bP:=.rd [x] (iq a b)
def st(b:Nat)(a v:Fr→V):bP:=.gB [a,v] (oL b)
def fa(a:Nat)(x:Fr→V):bP:=.pu [x] (xA a)
def cz(a:Option Nat)(b:Nat)(x i:Fr→V):bP:=.pu [x,i] (dJ a b)
def cN(x i:Fr→V):bP:=.pu [x,i] kF
def DW(b:List (Nat×Nat))(d c:List V):Option aY:=ao (pn b c d) fun a=>some (.val (.agg a))
def dI(a:List (Nat×Nat))(c:List V)(b:List (Fr→V)):bP:=.pu b (DW a c)
def D2(a:Nat)(c:List (Nat×Nat))(e d:List V):Option aY:=ao (pn c d (rep e a)) fun b=>some (.new b (.slice a a))
def c8(a:Nat)(b:List (Nat×Nat))(d:List V)(c:List (Fr→V)):bP:=.pu c (D2 a b d)
def dN(lo hi mx:Bool)(a:List (Fr→V)):bP:=.pu a (slice3 k4 lo hi mx)
def eB(s:Nat)(lo hi mx:Bool)(a:List (Fr→V)):bP:=.pu a (slice3 (j7 s) lo hi mx)
def eA(n s:Nat)(lo hi mx:Bool)(a:List (Fr→V)):bP:=.pu a (slice3 (nB n s) lo hi mx)
def ms(bytes:Nat)(a:List V)(x y:Fr→V):bP:=.pu [x,y] (mL bytes a)
def ek(x:Fr→V):bP:=.pu [x] (un zA)
def dx(x:Fr→V):bP:=.pu [x] (un cT)
def ej(x:Fr→V):bP:=.rd [x] ug
def dY(x:Fr→V):bP:=.pu [x] (un y8)
def mx(a:List (Fr→V)):bP:=.pu a (rz max2)
def mn(a:List (Fr→V)):bP:=.pu a (rz min2)
def dX(bytes:Nat)(a:List V)(x y:Fr→V):bP:=.pu [x,y] (yY bytes a)
def ap(a bytes:Nat)(x y:Fr→V):bP:=.gB [x,y] (fH a bytes)
def ee(a:Nat)(x y:Fr→V):bP:=.gB [x,y] (ov a)
def Eo(k:IntKind)(l:List V):Option aY:=match l with|[.int _ n]=>iO k (aC k n)|_=>none
def cJ(k:IntKind)(x:Fr→V):bP:=.pu [x] (Eo k)
def dZ(x:Fr→V):bP:=.pu [x] Aq
def d_(x:Fr→V):bP:=.rd [x] tg
def cm(f:Nat)(a:List (Fr→V)):bP:=.call a fun l=>some (.fn f,l)
def ec(a:List (Fr→V)):bP:=.call a ru
def ext(i:Nat)(x:Fr→V):bP:=.pu [x] (zj i)
def er(x:Fr→V):bP:=.pu [x] zN
def GI(l:List V):Option aY:=match l with|[.int k n]=>iO k (aC k (Int.sub (.ofNat 0) n))|_=>none
def neg(x:Fr→V):bP:=.pu [x] GI
def GL(l:List V):Option aY:=match l with|[.bool b]=>iU (!b)|_=>none
def not(x:Fr→V):bP:=.pu [x] GL
def Cb(f n:Nat)(l:List V):Option aY:=ao (RV n l) fun r=>some (.val (.func f r.1 r.2))
def en(f n:Nat)(a:List (Fr→V)):bP:=.pu a (Cb f n)
def gx(d:Option Nat)(K:Fr→af→Prop)(F:Fr)(H:af)(r:Option aY):Prop:=match r with
 |none=>False
 |some (.val v)=>K (put F d v) H
 |some (.new a b)=>K (put F d (b.mk H.next)) (H.push (.cells a 0))
def q_(d:Option Nat)(K:Fr→af→Prop)(F:Fr)(H:af)(r:Option V):Prop:=match r with
 |none=>False
 |some v=>K (put F d v) H
def gj(d:Option Nat)(K:Fr→af→Prop)(F:Fr)(r:Option (V×af)):Prop:=match r with
 |none=>False
 |some (v,a)=>K (put F d v) a
def oQ(P:Program)(G:Nat)(d:Option Nat)(K:Fr→af→Prop)(F:Fr)(H:af)(r:Option (o3×List V)):Prop:=match r with
 |none=>False
 |some (t,b)=>fk P G t b H fun v a=>K (put F d v) a
def yN(d:Option Nat)(K:Fr→af→Prop)(F:Fr)(H:af)(v:V):Prop:=K (put F d v) H
def IG(d:Option Nat)(F:Fr)(r:Option V):Prop:=match r,d with
 |none,_=>False
 |some v,some t=>rd t F=v
 |some _,none=>True
variable{e:Fr→af→Prop}{m:Fr}{c:af}
@[congr]theorem atr{r a:Option aY}(h:r=a):gx i e m c r=gx i e m c a:=by rw[h]
@[congr]theorem atv{r a:Option V}(h:r=a):q_ i e m c r=q_ i e m c a:=by rw[h]
@[congr]theorem as8{r a:Option (V×af)}(h:r=a):gj i e m r=gj i e m a:=by rw[h]
@[congr]theorem asn{P:Program}{r b:Option (o3×List V)}(h:r=b):oQ P a i e m c r=oQ P a i e m c b:=by rw[h]
variable{s:V}
@[congr]theorem atm{a:V}(h:s=a):yN i e m c s=yN i e m c a:=by rw[h]
variable{I:V→af→Prop}
@[congr]theorem atx{r a:Option (List V)}(h:r=a):qg I c r=qg I c a:=by rw[h]
@[go_sem]theorem atu(d:Option Nat)(K:Fr→af→Prop)(F:Fr)(H:af)(v:V):gx d K F H (some (.val v))=K (put F d v) H:=rfl
@[go_sem]theorem att(d:Option Nat)(K:Fr→af→Prop)(F:Fr)(H:af)(a:List V)(b:Shape):gx d K F H (some (.new a b))=K (put F d (b.mk H.next)) (H.push (.cells a 0)):=rfl
@[go_sem]theorem atw(d:Option Nat)(K:Fr→af→Prop)(F:Fr)(H:af)(v:V):q_ d K F H (some v)=K (put F d v) H:=rfl
@[go_sem]theorem as9(d:Option Nat)(K:Fr→af→Prop)(F:Fr)(a:af)(v:V):gj d K F (some (v,a))=K (put F d v) a:=rfl
@[go_sem]theorem atn(d:Option Nat)(K:Fr→af→Prop)(F:Fr)(H:af)(v:V):yN d K F H v=K (put F d v) H:=rfl
@[go_sem]theorem aty(Q:V→af→Prop)(H:af)(l:List V):qg Q H (some l)=Q (oK l) H:=rfl
def dA(P:Program)(G:Nat)(c:bP)(d:Option Nat)(F:Fr)(H:af)(K:Fr→af→Prop):Prop:=match c with
 |.bad=>False
 |.pu a g=>gx d K F H (g (vals a F))
 |.rd a g=>q_ d K F H (g (vals a F) H)
 |.gB a g=>gj d K F (g (vals a F) H)
 |.call a g=>oQ P G d K F H (g (vals a F))
 |.mN x=>AH (x F) H fun v b=>K (put F d v) b
theorem HZ{P:Program}{w:Fr→Option Bool}{l:bP}(o:w m=some true):jq P h ⟨w,i,l⟩ m c e=dA P h l i m c e:=by
 apply propext
 have y:jq P h ⟨w,i,l⟩ m c e↔match l with
  |.call j g=>∃t q,g (vals j m)=some (t,q)∧fk P h t q c fun v k=>e (put m i v) k
  |.mN x=>AH (x m) c fun v k=>e (put m i v) k
  |_=>∃p k,exec qI ⟨w,i,l⟩ m c=some (p,k)∧e p k:=by
  unfold jq;constructor
  ·rintro(⟨f,_⟩|⟨_,f⟩)
   ·have f:w m=some false:=f;rw[o]at f;cases f
   ·exact f
  ·exact fun f=>.inr ⟨o,f⟩
 rw[y];cases l with
 |call j g=>
  unfold dA oQ;constructor
  ·rintro⟨t,q,s,u⟩;simp only[s];exact u
  ·intro f;cases n:g (vals j m)with
   |none=>simp only[n]at f
   |some r=>obtain⟨t,a⟩:=r;simp only[n]at f;exact⟨t,a,n,f⟩
 |mN x=>exact Iff.rfl
 |bad=>
  constructor
  ·rintro⟨p,k,f,_⟩;simp only[exec,o]at f;cases f
  ·exact False.elim
 |pu j g=>
  unfold dA gx;simp only[exec,o];cases n:g (vals j m)with
  |none=>simp[ao]
  |some r=>cases r<;>(simp only[ao,Option.some.injEq,Prod.mk.injEq];exact⟨fun⟨_,_,⟨a,b⟩,f⟩=>by rw[a,b];exact f,fun f=>⟨_,_,⟨rfl,rfl⟩,f⟩⟩)
 |rd j g=>
  unfold dA q_;simp only[exec,o];cases n:g (vals j m) c with
  |none=>simp[ao]
  |some r=>simp only[ao,Option.some.injEq,Prod.mk.injEq];exact⟨fun⟨_,_,⟨a,b⟩,f⟩=>by rw[a,b];exact f,fun f=>⟨_,_,⟨rfl,rfl⟩,f⟩⟩
 |gB j g=>
  unfold dA gj;simp only[exec,o];cases n:g (vals j m) c with
  |none=>simp[ao]
  |some r=>simp only[ao,Option.some.injEq,Prod.mk.injEq];exact⟨fun⟨_,_,⟨a,b⟩,f⟩=>by rw[a,b];exact f,fun f=>⟨_,_,⟨rfl,rfl⟩,f⟩⟩
theorem step_skip{P:Program}{w:Fr→Option Bool}{f:bP}(b:w m=some false):jq P a ⟨w,i,f⟩ m c e=e (put m i V.undef) c:=by
 apply propext;unfold jq;constructor
 ·rintro(⟨_,h⟩|⟨h,_⟩)
  ·exact h
  ·have h:w m=some true:=h;rw[b]at h;cases h
 ·exact fun h=>.inl ⟨b,h⟩
theorem aqx{P:Program}{w:Fr→Option Bool}{f:bP}(b:w m=none):jq P a ⟨w,i,f⟩ m c e=False:=by
 apply propext;unfold jq;constructor
 ·rintro(⟨h,_⟩|⟨h,_⟩)
  ·have h:w m=some false:=h;rw[b]at h;cases h
  ·have h:w m=some true:=h;rw[b]at h;cases h
 ·exact False.elim
def q2(P:Program)(G:Nat)(b:Bool)(c:bP)(d:Option Nat)(K:Fr→af→Prop)(F:Fr)(H:af)(v:V):Prop:=match nj b v with
 |none=>False
 |some true=>dA P G c d F H K
 |some false=>K (put F d V.undef) H
def kf(P:Program)(G:Nat)(l:List c3)(Q:Fr→af→Prop)(F:Fr)(H:af):Prop:=gz P G l F H Q
def jr(P:Program)(G:Nat)(c:aP)(R:X→Fr→af→Prop)(F:Fr)(H:af):Prop:=wp P G c F H R
def yJ(P:Program)(G:Nat)(a b:aP)(R:X→Fr→af→Prop)(F:Fr)(H:af)(v:V):Prop:=r4 v (wp P G a F H R) (wp P G b F H R)
def pY(P:Program)(G:Nat)(d:Option Nat)(l:List c3)(Q:Fr→af→Prop)(F:Fr)(H:af)(r:Option V):Prop:=IG d F r∧gz P G l F H Q
variable{p:Bool}
@[congr]theorem atb{P:Program}{b:bP}{v:V}(h:v=s):q2 P a p b i e m c v=q2 P a p b i e m c s:=by rw[h]
variable{M:aP}
@[congr]theorem ath{P:Program}{a:aP}{R:X→Fr→af→Prop}{v:V}(b:v=s):yJ P h a M R m c v=yJ P h a M R m c s:=by rw[b]
@[congr]theorem asl{P:Program}{l:List c3}{r b:Option V}(h:r=b):pY P a i l e m c r=pY P a i l e m c b:=by rw[h]
section
variable {P:Program}{G:Nat}{F:Fr}{H:af}{Q:Fr→af→Prop}{R:X→Fr→af→Prop}{d:Option Nat}{K:Fr→af→Prop}
@[go_sem]theorem atf(c:bP):q2 P G true c d K F H (.bool true)=dA P G c d F H K:=rfl
@[go_sem]theorem atc(c:bP):q2 P G false c d K F H (.bool false)=dA P G c d F H K:=rfl
@[go_sem]theorem atd(c:bP):q2 P G false c d K F H (.bool true)=K (put F d V.undef) H:=rfl
@[go_sem]theorem ate(c:bP):q2 P G true c d K F H (.bool false)=K (put F d V.undef) H:=rfl
@[go_sem]theorem atj(a b:aP):yJ P G a b R F H (.bool true)=jr P G a R F H:=rfl
@[go_sem]theorem ati(a b:aP):yJ P G a b R F H (.bool false)=jr P G b R F H:=rfl
@[go_sem↓]theorem atI:kf P G [] Q F H=Q F H:=rfl
@[go_sem↓]theorem atH(i:Nat)(c:bP)(l:List c3):kf P G (ex i c::l) Q F H=dA P G c (some i) F H (kf P G l Q):=by
 show jq P G ⟨fun _=>some true,some i,c⟩ F H (kf P G l Q)=_;exact HZ rfl
@[go_sem↓]theorem atG(c:bP)(l:List c3):kf P G (bE c::l) Q F H=dA P G c none F H (kf P G l Q):=by
 show jq P G ⟨fun _=>some true,none,c⟩ F H (kf P G l Q)=_;exact HZ rfl
theorem ahU(j:Nat)(b:Bool)(dd:Option Nat)(c:bP):jq P G ⟨fun F=>nj b (rd j F),dd,c⟩ F H K=q2 P G b c dd K F H (rd j F):=by
 unfold q2;cases e:nj b (rd j F)with
 |none=>exact aqx e
 |some x=>cases x with
  |true=>exact HZ e
  |false=>exact step_skip e
@[go_sem↓]theorem atF(j:Nat)(b:Bool)(i:Nat)(c:bP)(l:List c3):kf P G (bF j b i c::l) Q F H=q2 P G b c (some i) (kf P G l Q) F H (rd j F):=by
 show jq P G ⟨fun F=>nj b (rd j F),some i,c⟩ F H (kf P G l Q)=_;exact ahU j b (some i) c
variable{t:List (Fr→V)}
theorem Ja{w:Fr→Option Bool}(c:w F=some true){dd:Option Nat}{g:List V→af→Option V}:wv ⟨w,dd,.rd t g⟩ F H↔IG dd F (g (vals t F) H):=by
 constructor
 ·rintro(h|⟨_,h⟩)
  ·have h:w F=some false:=h;rw[c]at h;cases h
  ·obtain⟨v,d,f⟩:=h t g rfl;rw[d];cases dd with
   |none=>exact trivial
   |some b=>exact f b rfl
 ·intro h;refine .inr ⟨c,fun j i e=>?_⟩;cases e;cases e:g (vals t F) H with
  |none=>rw[e]at h;cases dd<;>exact h.elim
  |some v=>
   refine⟨v,rfl,fun b a=>?_⟩;have a:dd=some b:=a;rw[e,a]at h;exact h
theorem aoX(w:Fr→Option Bool)(b:w F=some true)(dd:Option Nat)(a:List (Fr→V))(g:List V→af→Option V)(l:List c3):gz P G (.re ⟨w,dd,.rd a g⟩::l) F H Q=pY P G dd l Q F H (g (vals a F) H):=by
 unfold pY;rw[←Ja b];rfl
@[go_sem↓]theorem atJ(i:Nat)(g:Bool)(s:Nat)(x:Fr→V)(l:List c3):kf P G (re i (bp g s x)::l) Q F H=pY P G (some i) l Q F H (iq g s [x F] H):=aoX _ rfl _ _ _ _
@[go_sem]theorem asm(i:Nat)(l:List c3)(v:V):pY P G (some i) l Q F H (some v)=(rd i F=v∧kf P G l Q F H):=rfl
@[go_sem↓]theorem atT:jr P G .skip R F H=R .norm F H:=rfl
@[go_sem↓]theorem atQ:jr P G .ret R F H=R .ret F H:=rfl
@[go_sem↓]theorem atO(id:Nat):jr P G (.exit id) R F H=R (.exit id) F H:=rfl
@[go_sem↓]theorem atP(l:List c3):jr P G (.bN l) R F H=kf P G l (R .norm) F H:=rfl
@[go_sem↓]theorem atS(a b:aP):jr P G (.seq a b) R F H=jr P G a (fq (jr P G b R) R) F H:=rfl
@[go_sem↓]theorem atM(x:Fr→V)(a b:aP):jr P G (.cond x a b) R F H=yJ P G a b R F H (x F):=rfl
@[go_sem↓]theorem atL(id:Nat)(b:aP):jr P G (.block id b) R F H=jr P G b (iT id R) F H:=rfl
@[go_sem↓]theorem awr(K:Fr→af→Prop):fq K R .norm F H=K F H:=rfl
@[go_sem↓]theorem aws(K:Fr→af→Prop):fq K R .ret F H=R .ret F H:=rfl
@[go_sem↓]theorem awq(K:Fr→af→Prop)(i:Nat):fq K R (.exit i) F H=R (.exit i) F H:=rfl
@[go_sem↓]theorem aud(id:Nat):iT id R .norm F H=R .norm F H:=rfl
@[go_sem↓]theorem aue(id:Nat):iT id R .ret F H=R .ret F H:=rfl
@[go_sem↓]theorem fA(id:Nat):iT id R (.exit id) F H=R .norm F H:=ak rfl
theorem DX{id:Nat}(h:a≠id):iT id R (.exit a) F H=R (.exit a) F H:=aj h
def oY(I:Nat→Fr→af→Prop)(k:Nat)(F:Fr)(H:af):Prop:=∃m,m<k∧I m F H
theorem bH(I:Nat→Fr→af→Prop)(k:Nat)(a:I k F H)(h:∀k F H,I k F H→jr P G M (fq (oY I k) R) F H):jr P G (.loop M) R F H:=⟨I,k,a,h⟩
variable{A:FuncId}{b:List V}
theorem o6{N:eO}{T:cg}(hT:cR P T)(b7:jU P N)(fY:P.follows .mixedOrders=true){a:Func}{c:List gy}(d:N.get aM A=some a)(e:sC G N T a=some (M,c))
 {H:af}{Q:V→af→Prop} (hl:bM (cr b) a.ntmps=true) (h:jr P G M (gk c Q) (lR b 0 .nil) H):fk P G (.fn A) b H Q:=T5 hT b7 fY d e hl h
@[go_sem↓]theorem ata(a:List gy)(Q:V→af→Prop):gk a Q .ret F H=qg Q H (lF F H a):=rfl
@[go_sem↓]theorem as_(a:List gy)(Q:V→af→Prop):gk a Q .norm F H=qg Q H (lF F H a):=rfl
@[go_sem]theorem awk:lF F H []=some []:=rfl
@[go_sem]theorem awl(t:Nat)(l:List gy):lF F H (.tmp t::l)=ao (lF F H l) fun l=>some (rd t F::l):=rfl
@[go_sem]theorem awj(a:Nat)(g:Bool)(s:Nat)(l:List gy):lF F H (.cell a g s::l)=ao (iq g s [rd a F] H) fun v=>ao (lF F H l) fun l=>some (v::l):=rfl
@[go_sem]theorem awh(v:V):oK [v]=v:=rfl
@[go_sem]theorem awi(v u:V)(l:List V):oK (v::u::l)=.az (v::u::l):=rfl
@[go_sem]theorem awg:oK []=.az []:=rfl
@[go_sem]theorem zR{c:Type}(a:f)(b:f→Option c):ao (some a) b=b a:=rfl
@[go_sem]theorem avN{b:Type}(a:f→Option b):ao none a=none:=rfl
@[go_sem]theorem Cm(x:Option f):aQ true x=x:=rfl
@[go_sem]theorem avO(x:Option f):aQ false x=none:=rfl
@[go_sem↓]theorem asV(x:Fr→V):dA P G (mv x) d F H K=yN d K F H (x F):=rfl
@[go_sem↓]theorem asr(x:Fr→V):dA P G (bS x) d F H K=yN d K F H (x F):=rfl
@[go_sem↓]theorem as1(a b c:Fr→V):dA P G (pick a b c) d F H K=gx d K F H (zW [a F,b F,c F]):=rfl
@[go_sem↓]theorem aso(a:List V):dA P G (alloc a) d F H K=K (put F d (.ptr H.next 0)) (H.push (.cells a 0)):=rfl
@[go_sem↓]theorem asv(x:Fr→V):dA P G (box x) d F H K=gx d K F H (DZ [x F]):=rfl
@[go_sem↓]theorem ast(a:BinOp)(x y:Fr→V):dA P G (bi a x y) d F H K=gx d K F H (g9 (hU a) [x F,y F]):=rfl
@[go_sem↓]theorem asw(a:BinOp)(x y:Fr→V):dA P G (bs a x y) d F H K=gx d K F H (pQ (qp a) [x F,y F]):=rfl
@[go_sem↓]theorem ass(n:Bool)(t:TypeDesc)(x y:Fr→V):dA P G (be n t x y) d F H K=gx d K F H (ox n t [x F,y F]):=rfl
@[go_sem↓]theorem asK(g:Bool)(s:Nat)(x:Fr→V):dA P G (bp g s x) d F H K=q_ d K F H (iq g s [x F] H):=rfl
@[go_sem↓]theorem as7(s:Nat)(a v:Fr→V):dA P G (st s a v) d F H K=gj d K F (oL s [a F,v F] H):=rfl
@[go_sem↓]theorem asH(o:Nat)(x:Fr→V):dA P G (fa o x) d F H K=gx d K F H (xA o [x F]):=rfl
@[go_sem↓]theorem asI(a:Option Nat)(s:Nat)(x i:Fr→V):dA P G (cz a s x i) d F H K=gx d K F H (dJ a s [x F,i F]):=rfl
@[go_sem↓]theorem asJ(x i:Fr→V):dA P G (cN x i) d F H K=gx d K F H (kF [x F,i F]):=rfl
@[go_sem]theorem awu:vals [] F=[]:=rfl
@[go_sem]theorem awt(f:Fr→V)(l:List (Fr→V)):vals (f::l) F=f F::vals l F:=rfl
@[go_sem↓]theorem asu(a:List (Nat×Nat))(c:List V)(b:List (Fr→V)):dA P G (dI a c b) d F H K=gx d K F H (DW a c (vals b F)):=rfl
@[go_sem↓]theorem asx(n:Nat)(a:List (Nat×Nat))(c:List V)(b:List (Fr→V)):dA P G (c8 n a c b) d F H K=gx d K F H (D2 n a c (vals b F)):=rfl
@[go_sem↓]theorem as6(a b c:Bool)(e:List (Fr→V)):dA P G (dN a b c e) d F H K=gx d K F H (slice3 k4 a b c (vals e F)):=rfl
@[go_sem↓]theorem as5(s:Nat)(a b c:Bool)(e:List (Fr→V)):dA P G (eB s a b c e) d F H K=gx d K F H (slice3 (j7 s) a b c (vals e F)):=rfl
@[go_sem↓]theorem as4(n s:Nat)(a b c:Bool)(e:List (Fr→V)):dA P G (eA n s a b c e) d F H K=gx d K F H (slice3 (nB n s) a b c (vals e F)):=rfl
@[go_sem↓]theorem asT(n:Nat)(a:List V)(x y:Fr→V):dA P G (ms n a x y) d F H K=gx d K F H (mL n a [x F,y F]):=rfl
@[go_sem↓]theorem asP(x:Fr→V):dA P G (ek x) d F H K=gx d K F H (zA (x F)):=rfl
@[go_sem↓]theorem asM(x:Fr→V):dA P G (dx x) d F H K=gx d K F H (cT (x F)):=rfl
@[go_sem↓]theorem asz(x:Fr→V):dA P G (dY x) d F H K=gx d K F H (y8 (x F)):=rfl
@[go_sem↓]theorem asW(a:List (Fr→V)):dA P G (mx a) d F H K=gx d K F H (rz max2 (vals a F)):=rfl
@[go_sem↓]theorem asS(a:List (Fr→V)):dA P G (mn a) d F H K=gx d K F H (rz min2 (vals a F)):=rfl
@[go_sem↓]theorem asq(n:Nat)(a:List V)(x y:Fr→V):dA P G (dX n a x y) d F H K=gx d K F H (yY n a [x F,y F]):=rfl
@[go_sem↓]theorem asp(s n:Nat)(x y:Fr→V):dA P G (ap s n x y) d F H K=gj d K F (fH s n [x F,y F] H):=rfl
@[go_sem↓]theorem asE(s:Nat)(x y:Fr→V):dA P G (ee s x y) d F H K=gj d K F (ov s [x F,y F] H):=rfl
@[go_sem↓]theorem asA(k:IntKind)(x:Fr→V):dA P G (cJ k x) d F H K=gx d K F H (Eo k [x F]):=rfl
@[go_sem↓]theorem asB(x:Fr→V):dA P G (dZ x) d F H K=gx d K F H (Aq [x F]):=rfl
@[go_sem↓]theorem asC(x:Fr→V):dA P G (d_ x) d F H K=q_ d K F H (tg [x F] H):=rfl
@[go_sem↓]theorem asy(f:Nat)(a:List (Fr→V)):dA P G (cm f a) d F H K=oQ P G d K F H (some (.fn f,vals a F)):=rfl
@[go_sem↓]theorem asD(a:List (Fr→V)):dA P G (ec a) d F H K=oQ P G d K F H (ru (vals a F)):=rfl
@[go_sem↓]theorem asG(i:Nat)(x:Fr→V):dA P G (ext i x) d F H K=gx d K F H (zj i [x F]):=rfl
@[go_sem↓]theorem asY(x:Fr→V):dA P G (er x) d F H K=gx d K F H (zN [x F]):=rfl
@[go_sem↓]theorem asX(x:Fr→V):dA P G (neg x) d F H K=gx d K F H (GI [x F]):=rfl
@[go_sem↓]theorem asZ(x:Fr→V):dA P G (not x) d F H K=gx d K F H (GL [x F]):=rfl
@[go_sem↓]theorem asQ(f n:Nat)(a:List (Fr→V)):dA P G (en f n a) d F H K=gx d K F H (Cb f n (vals a F)):=rfl
theorem use(h:∀H,fk P G (.fn A) b H fun v a=>v=s∧a=H)(f:K (put F d s) H):oQ P G d K F H (some (.fn A,b)):=
 (h H).mono fun v a ⟨c,e⟩=>by rw[c,e];exact f
end
theorem qE(k:IntKind):g_ k k=true:=by cases k<;>rfl
section
variable (k:IntKind) (a b:Int)
@[go_sem]theorem atY:g9 (hU .add) [.int k a,.int k b]=some (.val (.int k (aC k (a+b)))):=by show aQ (g_ k k) _=_;rw[qE];rfl
@[go_sem]theorem aub:g9 (hU .sub) [.int k a,.int k b]=some (.val (.int k (aC k (a-b)))):=by show aQ (g_ k k) _=_;rw[qE];rfl
@[go_sem]theorem at5:g9 (hU .mul) [.int k a,.int k b]=some (.val (.int k (aC k (a*b)))):=by show aQ (g_ k k) _=_;rw[qE];rfl
theorem jG(h:b≠0):g9 (hU .quo) [.int k a,.int k b]=some (.val (.int k (aC k (a.tdiv b)))):=by
 show aQ (and (g_ k k) (!(mH b 0))) _=_;rw[qE,rG,aZ h];rfl
theorem mB(h:b≠0):g9 (hU .rem) [.int k a,.int k b]=some (.val (.int k (a.tmod b))):=by
 show aQ (and (g_ k k) (!(mH b 0))) _=_;rw[qE,rG,aZ h];rfl
@[go_sem]theorem atZ:g9 (hU .eql) [.int k a,.int k b]=some (.val (.bool (decide (a=b)))):=by show aQ (g_ k k) (iU (mH a b))=_;rw[qE,rG];rfl
@[go_sem]theorem at6:g9 (hU .neq) [.int k a,.int k b]=some (.val (.bool (!decide (a=b)))):=by show aQ (g_ k k) (iU (!mH a b))=_;rw[qE,rG];rfl
@[go_sem]theorem at4:g9 (hU .lss) [.int k a,.int k b]=some (.val (.bool (decide (a<b)))):=by show aQ (g_ k k) (iU (lA a b))=_;rw[qE,qz];rfl
@[go_sem]theorem at2:g9 (hU .gtr) [.int k a,.int k b]=some (.val (.bool (decide (b<a)))):=by show aQ (g_ k k) (iU (lA b a))=_;rw[qE,qz];rfl
@[go_sem]theorem at3:g9 (hU .leq) [.int k a,.int k b]=some (.val (.bool (!decide (b<a)))):=by show aQ (g_ k k) (iU (!lA b a))=_;rw[qE,qz];rfl
@[go_sem]theorem at0:g9 (hU .geq) [.int k a,.int k b]=some (.val (.bool (!decide (a<b)))):=by show aQ (g_ k k) (iU (!lA a b))=_;rw[qE,qz];rfl
end
@[go_sem]theorem TD(k l:IntKind)(a:Int)(n:Nat):g9 (hU .shr) [.int k a,.int l (n:Int)]=some (.val (.int k (rR a (dU n (gK k))))):=rfl
@[go_sem]theorem TC(k l:IntKind)(a:Int)(n:Nat):g9 (hU .shl) [.int k a,.int l (n:Int)]=some (.val (.int k (aC k (a*((2^dU n (gK k):Nat):Int))))):=rfl
@[go_sem]theorem aua(k l:IntKind)(a:Int)(n:Nat):g9 (hU .shr) [.int k a,.int l (no_index (OfNat.ofNat n))]=some (.val (.int k (rR a (dU n (gK k))))):=rfl
@[go_sem]theorem at7(k l:IntKind)(a:Int)(n:Nat):g9 (hU .shl) [.int k a,.int l (no_index (OfNat.ofNat n))]=some (.val (.int k (aC k (a*((2^dU n (gK k):Nat):Int))))):=rfl
theorem aH(x:Int)(h: -9223372036854775808≤x∧x<9223372036854775808):aC .i64 x=x:=by
 rw[pX];unfold r8;simp[p4,p5];omega
theorem hJ(x:Int):aC .u64 x=x%18446744073709551616:=by
 rw[pX];unfold r8;simp[p4,p5]
theorem n8(x:Int):aC .u32 x=x%4294967296:=by
 rw[pX];unfold r8;simp[p4,p5]
theorem Sy(x:Int):aC .u8 x=x%256:=by
 rw[pX];unfold r8;simp[p4,p5]
theorem bW(x:Int)(h:0≤x∧x<18446744073709551616):aC .u64 x=x:=by rw[hJ];omega
theorem gC(x:Int)(h:0≤x∧x<4294967296):aC .u32 x=x:=by rw[n8];omega
theorem FL(x:Int)(h:0≤x∧x<256):aC .u8 x=x:=by rw[Sy];omega
@[go_sem]theorem auG(k l:IntKind)(n:Int):Eo k [.int l n]=some (.val (.int k (aC k n))):=rfl
@[go_sem]theorem av_(x y:V):zW [.bool true,x,y]=some (.val x):=rfl
@[go_sem]theorem av9(x y:V):zW [.bool false,x,y]=some (.val y):=rfl
@[go_sem]theorem avM(b:Bool):GL [.bool b]=some (.val (.bool (!b))):=rfl
@[go_sem]theorem avJ(k:IntKind)(n:Int):GI [.int k n]=some (.val (.int k (aC k (-n)))):=by
 show iO k (aC k (Int.sub 0 n))=_;rw[show Int.sub 0 n= -n from Int.zero_sub n];rfl
@[go_sem]theorem auN(i:Nat)(l:List V):zj i [.az l]=ao (cK l i) fun v=>some (.val v):=rfl
@[go_sem]theorem amb(a:f)(l:List f):cK (a::l) 0=some a:=rfl
@[go_sem]theorem Pu(a:f)(l:List f)(n:Nat):cK (a::l) (n+1)=cK l n:=rfl
@[go_sem]theorem zD(l:List f):cq l 0=some []:=by cases l<;>rfl
@[go_sem]theorem PD(a:f)(l:List f)(n:Nat):cq (a::l) (n+1)=ao (cq l n) fun r=>some (a::r):=rfl
@[go_sem]theorem c_(l:List f):eC l 0=l:=by cases l<;>rfl
@[go_sem]theorem Pk(a:f)(l:List f)(n:Nat):eC (a::l) (n+1)=eC l n:=rfl
@[go_sem]theorem avt(n:Nat)(a:List V):cT (.row n a)=some (.val (.int .i64 (n:Int))):=rfl
@[go_sem]theorem avv(b o n:Nat)(c:Cap):cT (.slice b o n c)=some (.val (.int .i64 (n:Int))):=rfl
@[go_sem]theorem avr:cT .an=some (.val (.int .i64 0)):=rfl
@[go_sem]theorem avn:cT .emp=some (.val (.int .i64 0)):=rfl
@[go_sem]theorem avw(s:List UInt8):zA (.str s)=some (.val (.int .i64 (s.length:Int))):=by show iO .i64 (.ofNat (cr s))=_;rw[gO];rfl
@[go_sem]theorem atX(n x y:Bool):ox n .bool [.bool x,.bool y]=some (.val (.bool (xor n (x==y)))):=by cases n<;>cases x<;>cases y<;>rfl
@[go_sem]theorem avL(b o:Nat):zN [.ptr b o]=some (.val (.ptr b o)):=rfl
@[go_sem]theorem auO(b o f:Nat):xA f [.ptr b o]=some (.val (.ptr b (o+f))):=rfl
@[go_sem]theorem auP(a:List V)(o f:Nat):xA f [.cY a o]=some (.val (.cY a (o+f))):=rfl
variable{q:Int}
theorem mw(k:IntKind)(h:0≤q):gm (.int k q)=some q.toNat:=by
 cases q with
 |ofNat n=>rfl
 |negSucc n=>exact absurd h aa
theorem jH{a:Nat}(c:a≤h):bM a h=true:=(eZ _ _).2 c
variable{u:Nat}{n:IntKind}
theorem kh{a:List V}(b:0≤q∧q<u):dJ none h [.row u a,.int n q]=some (.val (.cY a (q.toNat*h))):=by
 show ao (gm (.int n q)) _=_;rw[mw n b.1];show aQ (bM (q.toNat+1) u) _=_;rw[jH aa];rfl
variable{L:Nat}
theorem b3{a:Nat}{c:Cap}(d:0≤q∧q<a):dJ none h [.slice u L a c,.int n q]=some (.val (.ptr u (L+q.toNat*h))):=by
 show ao (gm (.int n q)) _=_;rw[mw n d.1];show aQ (bM (q.toNat+1) a) _=_;rw[jH aa];rfl
@[go_sem]theorem avl(s k:Nat)(a:List V)(H:af):iq false s [.cY a k] H=cK a k:=rfl
@[go_sem]theorem avm(s k:Nat)(a:List V)(H:af):iq true s [.cY a k] H=ao (cq (eC a k) s) fun r=>some (.agg r):=rfl
@[go_sem]theorem GK(H:af)(o:cP):(H.push o).next=H.next+1:=rfl
@[go_sem]theorem jh(H:af)(b:Nat)(o:cP):(H.set b o).next=H.next:=rfl
@[go_sem]theorem avK(G:Nat):(af.zero G).next=G:=rfl
attribute [go_sem↓] af.bf af.aK
attribute [go_sem] af.e7 dK cE dF ga bJ Nat.reduceAdd Nat.reduceMul
@[go_sem]theorem avH(b:Nat):Shape.mk .ptr b=.ptr b 0:=rfl
@[go_sem]theorem avI(b l c:Nat):Shape.mk (.slice l c) b=.slice b 0 l (.known c):=rfl
@[go_sem]theorem avG(b l:Nat):Shape.mk (.least l) b=.slice b 0 l (.least l):=rfl
@[go_sem]theorem avF(b l:Nat):Shape.mk (.bytes l) b=.slice b 0 l .nw:=rfl
def Un(o:cP):Option (List V):=match o with|.cells a 0=>some a|_=>none
@[go_sem]theorem aui(a:List V):Un (.cells a 0)=some a:=rfl
theorem fJ{cs:List V}(a:c.get h=.cells cs 0):c.cS h u L=cq (eC cs u) L:=by
 unfold af.cS af.cells?;rw[a];rfl
theorem e9{v:V}{a:List V}(b:h<a.length):cC [v] a h=some (a.set h v):=by
 rw[lC,ak (by simpa using Nat.succ_le_of_lt b)];simp[List.set_eq_take_append_cons_drop,b]
theorem dt{p:Prop}[Decidable p](h:p):decide p=true:=bk h
theorem df{p:Prop}[Decidable p](h:¬p):decide p=false:=aZ h
@[go_sem]theorem GM:(!true)=false:=rfl
@[go_sem]theorem nf:(!false)=true:=rfl
@[go_sem]theorem JW:(true==true)=true:=rfl
@[go_sem]theorem JV:(true==false)=false:=rfl
@[go_sem]theorem JU:(false==true)=false:=rfl
@[go_sem]theorem JT:(false==false)=true:=rfl
@[go_sem]theorem aww(b:Bool):(xor false b)=b:=by cases b<;>rfl
@[go_sem]theorem awx(b:Bool):(xor true b)= !b:=by cases b<;>rfl
@[go_sem]theorem auc(a:List (Nat×Nat))(c b:List V):DW a c b=ao (pn a b c) fun d=>some (.val (.agg d)):=rfl
@[go_sem]theorem auh(n:Nat)(a:List (Nat×Nat))(c b:List V):D2 n a c b=ao (pn a b (rep c n)) fun d=>some (.new d (.slice n n)):=rfl
@[go_sem]theorem auR(b a:List V):pn [] b a=some a:=rfl
@[go_sem]theorem auQ(a s:Nat)(c:List (Nat×Nat))(v:V)(d b:List V):pn ((a,s)::c) (v::d) b=aQ (and (bg v) (bn (cr (cellsOf v)) s)) (ao (cC (cellsOf v) b a) fun b=>pn c d b):=rfl
@[go_sem]theorem au1(b:Bool):bg (.bool b)=true:=rfl
@[go_sem]theorem au4(k:IntKind)(n:Int):bg (.int k n)=true:=rfl
@[go_sem]theorem ave(s:List UInt8):bg (.str s)=true:=rfl
@[go_sem]theorem avb(n:Nat)(s:List V):bg (.row n s)=true:=rfl
@[go_sem]theorem au0(s:List V):bg (.agg s)=true:=rfl
@[go_sem]theorem ava(b o:Nat):bg (.ptr b o)=true:=rfl
@[go_sem]theorem avd(b o n:Nat)(c:Cap):bg (.slice b o n c)=true:=rfl
@[go_sem]theorem au_:bg .an=true:=rfl
@[go_sem]theorem au2:bg .emp=true:=rfl
@[go_sem]theorem au9:bg .iW=true:=rfl
@[go_sem]theorem au3(f:Nat)(a b:List V):bg (.func f a b)=true:=rfl
@[go_sem]theorem auj(s:List V):cellsOf (.agg s)=s:=rfl
@[go_sem]theorem auk(b:Bool):cellsOf (.bool b)=[.bool b]:=rfl
@[go_sem]theorem aun(k:IntKind)(n:Int):cellsOf (.int k n)=[.int k n]:=rfl
@[go_sem]theorem auw(s:List UInt8):cellsOf (.str s)=[.str s]:=rfl
@[go_sem]theorem auu(n:Nat)(s:List V):cellsOf (.row n s)=[.row n s]:=rfl
@[go_sem]theorem aut(b o:Nat):cellsOf (.ptr b o)=[.ptr b o]:=rfl
@[go_sem]theorem auv(b o n:Nat)(c:Cap):cellsOf (.slice b o n c)=[.slice b o n c]:=rfl
@[go_sem]theorem aus:cellsOf .an=[.an]:=rfl
@[go_sem]theorem aul:cellsOf .emp=[.emp]:=rfl
@[go_sem]theorem aur:cellsOf .iW=[.iW]:=rfl
@[go_sem]theorem aum(f:Nat)(a b:List V):cellsOf (.func f a b)=[.func f a b]:=rfl
@[go_sem]theorem avP(b:Bool):V.one (.bool b)=true:=rfl
@[go_sem]theorem avS(k:IntKind)(n:Int):V.one (.int k n)=true:=rfl
@[go_sem]theorem av1(s:List UInt8):V.one (.str s)=true:=rfl
@[go_sem]theorem avZ(n:Nat)(s:List V):V.one (.row n s)=true:=rfl
@[go_sem]theorem avY(b o:Nat):V.one (.ptr b o)=true:=rfl
@[go_sem]theorem av0(b o n:Nat)(c:Cap):V.one (.slice b o n c)=true:=rfl
@[go_sem]theorem avX:V.one .an=true:=rfl
@[go_sem]theorem avQ:V.one .emp=true:=rfl
@[go_sem]theorem avW:V.one .iW=true:=rfl
@[go_sem]theorem avR(f:Nat)(a b:List V):V.one (.func f a b)=true:=rfl
@[go_sem]theorem atW:cG []=true:=rfl
@[go_sem]theorem atV(v:V)(l:List V):cG (v::l)=and v.one (cG l):=rfl
@[go_sem]theorem avE:cr ([]:List f)=0:=rfl
@[go_sem]theorem avD(a:f)(l:List f):cr (a::l)=cr l+1:=rfl
@[go_sem]theorem ane(n:Nat):bn n n=true:=sn n
@[go_sem]theorem atU:and true true=true:=rfl
@[go_sem]theorem awn(a:List f)(v:f)(l:List f):cC a (v::l) 0=nr a (v::l):=rfl
@[go_sem]theorem awo(a:List f)(v:f)(l:List f)(n:Nat):cC a (v::l) (n+1)=ao (cC a l n) fun r=>some (v::r):=rfl
@[go_sem]theorem av6(l:List f):nr [] l=some l:=rfl
@[go_sem]theorem av7(x y:f)(a l:List f):nr (x::a) (y::l)=ao (nr a l) fun r=>some (x::r):=rfl
@[go_sem]theorem awf(l:List f):rep l 0=[]:=rfl
@[go_sem]theorem z7(l:List f)(n:Nat):rep l (n+1)=cW l (rep l n):=rfl
@[go_sem]theorem B5(l:List f):cW [] l=l:=rfl
@[go_sem]theorem avh(a:f)(l m:List f):cW (a::l) m=a::cW l m:=rfl
@[go_sem]theorem auf(v:V):DZ [v]=aQ (bg v) (some (.new (cellsOf v) .ptr)):=rfl
def sQ(g:Bool)(s o:Nat)(H:af)(b:Nat)(x:cP):Option V:=match x with
 |.cells a c=>match H.fR b c,g with
  |true,false=>cK a o
  |true,true=>ao (cq (eC a o) s) fun r=>some (.agg r)
  |false,_=>none
 |_=>none
def CS(s o:Nat)(H:af)(b:Nat)(v:V)(x:cP):Option (V×af):=match x with
 |.cells a 0=>aQ (and (bg v) (bn (cr (cellsOf v)) s)) (aQ (cG (cellsOf v)) (ao (cC (cellsOf v) a o) fun c=>some (V.undef,H.set b (.cells c 0))))
 |.cells _ _=>aQ (and (bg v) (bn (cr (cellsOf v)) s)) (ao (H.e5 b o (cellsOf v)) fun H=>some (V.undef,H))
 |_=>none
@[congr]theorem avi{x a:cP}(d:x=a):sQ p h u c L x=sQ p h u c L a:=by rw[d]
@[congr]theorem awp{v:V}{x a:cP}(d:x=a):CS h u c L v x=CS h u c L v a:=by rw[d]
@[go_sem]theorem avj(s o:Nat)(H:af)(b:Nat)(a:List V):sQ false s o H b (.cells a 0)=cK a o:=rfl
@[go_sem]theorem avk(s o:Nat)(H:af)(b:Nat)(a:List V):sQ true s o H b (.cells a 0)=ao (cq (eC a o) s) fun r=>some (.agg r):=rfl
@[go_sem]theorem RX(s o:Nat)(H:af)(b:Nat)(v:V)(a:List V):CS s o H b v (.cells a 0)=aQ (and (bg v) (bn (cr (cellsOf v)) s)) (aQ (cG (cellsOf v)) (ao (cC (cellsOf v) a o) fun c=>some (V.undef,H.set b (.cells c 0)))):=rfl
@[go_sem]theorem Gs(g:Bool)(s b o:Nat)(H:af):iq g s [.ptr b o] H=sQ g s o H b (H.get b):=by
 cases g
 ·show H.load b o=_;unfold af.load af.cells? sQ;cases H.get b with
  |cells c a=>cases e:H.fR b a<;>simp[e,aQ,ao]
  |_=>rfl
 ·show ao (H.cS b o s) _=_;unfold af.cS af.cells? sQ;cases H.get b with
  |cells c a=>cases e:H.fR b a<;>simp[e,aQ,ao]
  |_=>rfl
@[go_sem]theorem aqv(s b o:Nat)(v:V)(H:af):oL s [.ptr b o,v] H=CS s o H b v (H.get b):=by
 show aQ (and (bg v) (bn (cr (cellsOf v)) s)) (ao (H.e5 b o (cellsOf v)) fun H=>some (V.undef,H))=_;cases e:H.get b with
 |cells a g=>
  cases g with
  |zero=>
   unfold af.e5;rw[e];show aQ _ (ao (aQ (cG (cellsOf v)) (ao (cC (cellsOf v) a o) fun c=>some (H.set b (.cells c 0)))) _)=_;rw[RX];cases cG (cellsOf v)with
   |false=>rfl
   |true=>cases cC (cellsOf v) a o<;>rfl
  |succ g=>rfl
 |none=>unfold af.e5;rw[e];cases(and (bg v) (bn (cr (cellsOf v)) s))<;>rfl
 |bB x y=>unfold af.e5;rw[e];cases(and (bg v) (bn (cr (cellsOf v)) s))<;>rfl
 |ck x=>unfold af.e5;rw[e];cases(and (bg v) (bn (cr (cellsOf v)) s))<;>rfl
attribute [go_sem] Int.toNat_natCast_add_one
theorem ir{a:List V}{l:IntKind}(b:0≤q∧q*h≤1099511627776∧q≤1099511627776):mL h a [.int n q,.int l q]=some (.new (rep a q.toNat) (.slice q.toNat q.toNat)):=by
 obtain⟨m,rfl⟩:∃m:Nat,q=m:=⟨q.toNat,aa⟩;have c:m*h≤1099511627776:=by have:=b.2.1;rw[←fU]at this;omega
 simp only[mL,show gm (V.int n (m:Int))=some m from rfl,show gm (V.int l (m:Int))=some m from rfl,zR,bJ];rw[jH (aE m),jH (show dQ m h≤1099511627776 from c),jH (aa:m≤1099511627776)];rfl
theorem sA{lo hi:Option V}{l h:Nat}(hl:Option.casesOn (motive:=fun _=>Option Nat) lo (some 0) gm=some l)(hh:Option.casesOn (motive:=fun _=>Option Nat) hi (some u) gm=some h)(a:l≤h)(b:h≤L):jI lo hi u L=some (l,h):=by
 unfold jI;rw[hh];show ao (Option.casesOn (motive:=fun _=>Option Nat) lo (some 0) gm) _=_;rw[hl];show aQ (and (bM h L) (bM l h)) _=_;rw[jH b,jH a];rfl
theorem RN{l h:Nat}{a:List V}{lo hi:Option V}(f:a.length=L*u)(d:jI lo hi L L=some (l,h))(g:l≤h)(i:h≤L):ye u L a lo hi none=some (.val (.row (h-l) ((a.drop (l*u)).take ((h-l)*u)))):=by
 show ao (jI lo hi L L) _=_;rw[d];show Bool.casesOn (motive:=fun _=>Option aY) (bn l h) _ _=_;by_cases e:l=h
 ·subst e;rw[ane];simp
 ·rw[show bn l h=false from mY.2 fun b=>e ((beq_eq _ _).1 b)];show ao (cq (eC a (dQ l u)) (dQ (ja h l) u)) _=_;rw[kG,e4,ak]
  ·rfl
  ·have j:(h-l)*u≤(L-l)*u:=dn u aa;have k:(L-l)*u=L*u-l*u:=Nat.sub_mul L l u;have:dQ (ja h l) u=(h-l)*u:=rfl;have c:dQ l u=l*u:=rfl;rw[this,gZ,c,f];omega
theorem CN{a:List V}(c:a.length=u*h)(b:0≤q∧q≤u):slice3 (j7 h) false true false [.row u a,.int n q]=some (.val (.row q.toNat (a.take (q.toNat*h)))):=by
 show ye h u a none (some (.int n q)) none=_;rw[RN (l:=0) (h:=q.toNat) c (sA rfl (mw n b.1) (bQ _) aa) (bQ _) aa];simp
theorem ap9{a:List V}(b:a.length=L*u)(c:0≤q∧q≤L):slice3 (j7 u) true false false [.row L a,.int n q]=some (.val (.row (L-q.toNat) (a.drop (q.toNat*u)))):=by
 show ye u L a (some (.int n q)) none none=_;rw[RN (l:=q.toNat) (h:=L) b (sA (mw n c.1) rfl aa (aE _)) aa (aE _)];rw[b_];rw[gZ,b,Nat.sub_mul];exact aE _
section
variable {P:Program}{G:Nat}
variable{A:FuncId}
theorem Kv{m r:List V}{F:List V}(N:c.get h=.cells F 0)(L:∃o n s,V.slice h o n s∈m)(M:cD c (c.set h .none) m r)
 (B:fk P G (.fn A) r (c.set h .none) I):fk P G (.fn A) m c I:=by
 refine⟨B.1,fun k w E j Q z=>?_⟩;obtain⟨l,hl⟩:∃l,k h=some l:=by
  obtain⟨o,n,s,R⟩:=L;obtain⟨i,hi⟩:=List.getElem?_of_mem R;obtain⟨x,_,S⟩:=z.get i _ hi;cases S with
  |slice K _ _=>exact⟨_,K⟩
 have q:Cut 0 c (c.set h .none):=by
  refine⟨fun y=>?_,rfl,fun y y' W X g d a u f=>?_⟩
  ·rw[af.aK];split
   ·exact .inr ⟨bQ _,rfl⟩
   ·exact .inl rfl
  ·rw[af.aK]at f⊢;split at f
   ·rename_i e;subst e;rw[N]at a;cases a;exact absurd rfl d
   ·rw[a]at f;cases f
 have C:=j.xy q (bQ _);have O:Ext k c w (k.di c (c.set h .none) w) (c.set h .none) w:=by
  refine⟨C.rel,vq j,fun a u=>absurd (a.symm.trans u) aB,fun{y} _ d _=>?_,aE _,fun _ _=>rfl,aE _,hN.refl w,fun{y Y} t p=>⟨?_,rfl⟩,C.ni⟩
  ·rw[af.aK,aj (fun e=>by rw[←e,hl]at d;cases d)]
  ·rw[af.aK];split
   ·rfl
   ·exact p
 refine(B.2 (k.di c (c.set h .none) w) w E (j.cut q) Q (bm.di j q M z)).mono ?_;rintro e Z ⟨v,T,D,U,t,p,H,J⟩;exact⟨v,T,D,U,t,O.trans p,H,J⟩
theorem jk{a args2:List V}{b:Nat}{cs:List V}(h:∀c,fk P G (.fn A) args2 c fun v d=>v=s∧d=c)(p:c.get b=.cells cs 0)
 (k:∃o n f,V.slice b o n f∈a) (l:cD c (c.set b .none) a args2) (q:e (put m i s) (c.set b .none)):oQ P G i e m c (some (.fn A,a)):=
 (Kv p k l (h _)).mono fun v d ⟨g,j⟩=>by rw[g,j];exact q
end
def aP.erase:aP→aP
 |.seq a b=>.seq a.erase b.erase
 |.cond x a b=>.cond x a.erase b.erase
 |.block id b=>.block id b.erase
 |.loop b=>.loop b.erase
 |.cut _ _ b=>b.erase
 |.skip=>.skip
 |.ret=>.ret
 |.exit id=>.exit id
 |.bN l=>.bN l
def aP.o7(B n:Nat):aP→Prop
 |.seq a b=>a.o7 B n∧b.o7 B n
 |.cond _ a b=>a.o7 B n∧b.o7 B n
 |.block _ b=>b.o7 B n
 |.loop b=>b.o7 B n
 |.cut c d b=>B≤c∧n≤d∧b.o7 B n
 |_=>True
theorem agA{x y:aP}(h:aP.seq x y=M.erase)(d:¬∃B n c,M=aP.cut B n c):∃a b,M=.seq a b∧x=a.erase∧y=b.erase:=by
 cases M with
 |seq a b=>simp only[aP.erase,aP.seq.injEq]at h;exact⟨a,b,rfl,h⟩
 |cut B n c=>exact absurd ⟨B,n,c,rfl⟩ d
 |_=>simp only[aP.erase]at h;cases h
theorem agv{x y:aP}{f:Fr→V}(h:aP.cond f x y=M.erase)(i:¬∃B n c,M=aP.cut B n c):∃a b,M=.cond f a b∧x=a.erase∧y=b.erase:=by
 cases M with
 |cond g a b=>simp only[aP.erase,aP.cond.injEq]at h;obtain⟨rfl,d,e⟩:=h;exact⟨a,b,rfl,d,e⟩
 |cut B n c=>exact absurd ⟨B,n,c,rfl⟩ i
 |_=>simp only[aP.erase]at h;cases h
theorem agu{x:aP}(b:aP.block h x=M.erase)(e:¬∃B n c,M=aP.cut B n c):∃a,M=.block h a∧x=a.erase:=by
 cases M with
 |block j a=>simp only[aP.erase,aP.block.injEq]at b;obtain⟨rfl,d⟩:=b;exact⟨a,rfl,d⟩
 |cut B n c=>exact absurd ⟨B,n,c,rfl⟩ e
 |_=>simp only[aP.erase]at b;cases b
theorem agx{x:aP}(h:aP.loop x=M.erase)(c:¬∃B n b,M=aP.cut B n b):∃a,M=.loop a∧x=a.erase:=by
 cases M with
 |loop a=>simp only[aP.erase,aP.loop.injEq]at h;exact⟨a,rfl,h⟩
 |cut B n b=>exact absurd ⟨B,n,b,rfl⟩ c
 |_=>simp only[aP.erase]at h;cases h
theorem agy{l:List c3}(h:aP.bN l=M.erase)(c:¬∃B n b,M=aP.cut B n b):M=.bN l:=by
 cases M with
 |bN a=>simp only[aP.erase,aP.bN.injEq]at h;rw[h]
 |cut B n b=>exact absurd ⟨B,n,b,rfl⟩ c
 |_=>simp only[aP.erase]at h;cases h
theorem NN(h:aP.skip=M.erase)(b:¬∃B n a,M=aP.cut B n a):M=.skip:=by
 cases M with
 |skip=>rfl
 |cut B n a=>exact absurd ⟨B,n,a,rfl⟩ b
 |_=>simp only[aP.erase]at h;cases h
theorem agz(h:aP.ret=M.erase)(b:¬∃B n a,M=aP.cut B n a):M=.ret:=by
 cases M with
 |ret=>rfl
 |cut B n a=>exact absurd ⟨B,n,a,rfl⟩ b
 |_=>simp only[aP.erase]at h;cases h
theorem agw(h:aP.exit a=M.erase)(c:¬∃B n b,M=aP.cut B n b):M=.exit a:=by
 cases M with
 |exit j=>simp only[aP.erase,aP.exit.injEq]at h;rw[h]
 |cut B n b=>exact absurd ⟨B,n,b,rfl⟩ c
 |_=>simp only[aP.erase]at h;cases h
theorem Cut.down{B:Nat}{d:af}(h:B≤a)(b:Cut a c d):Cut B c d:=
 ⟨fun y=>(b.sub y).imp id fun⟨e,f⟩=>⟨cy h e,f⟩,b.next,b.bB⟩
section
variable {P:Program}{G B n:Nat}{N:eO}{T:cg}
theorem ar2(hT:cR P T)(b7:jU P N)(fY:P.follows .mixedOrders=true):∀(m:Nat) (c:Code) (k:aP),SizeOf.sizeOf c+SizeOf.sizeOf k≤m→comp N T c=some k.erase→k.o7 B n→codeOk G n c=true→∀(F:Fr) (H:af) (Q:X→Fr→af→Prop),wp P G k F H Q→iL P G B n false c F H Q:=by
 intro m;induction m with
 |zero=>
  intro c k q;cases k<;>simp at q
 |succ m r=>
  intro c k q d p v F H Q h;by_cases o:∃E L D,k=.cut E L D
  ·obtain⟨E,L,D,rfl⟩:=o;obtain⟨O,S,s,u,Z⟩:=h;obtain⟨V,W,g3⟩:=p;refine S1 (s.down V) (fun t ht=>u t (eG ht W)) (r c D ?_ d g3 v O S Q Z);simp at q;omega
  cases c with
  |skip=>
   have d:some aP.skip=some k.erase:=d;cases NN (Option.some.inj d) o;exact DL h
  |region id ad U=>
   obtain⟨l,hp,d⟩:=av.1 (show ao (plan N T ad.toList U) (fun l=>some (aP.bN l))=some k.erase from d);cases agy (Option.some.inj d) o;exact DH hT b7 fY v hp h
  |seq a b=>
   obtain⟨x,w,d⟩:=av.1 (show ao (comp N T a) (fun x=>ao (comp N T b) fun y=>some (aP.seq x y))=some k.erase from d);obtain⟨y,C,d⟩:=av.1 d;obtain⟨A,kb,rfl,rfl,rfl⟩:=agA (Option.some.inj d) o;obtain⟨s,u⟩:=(cu _ _).mp (show and (codeOk G n a) (codeOk G n b)=true from v);simp at q;refine DK (AL (fun e M R g=>?_) (r a A aa w p.1 s F H _ h));cases e with
   |norm=>exact r b kb aa C p.2 u M R Q g
   |ret=>exact g
   |exit i=>exact g
  |cond x a b=>
   obtain⟨f,K,d⟩:=av.1 (show ao (hD x) (fun f=>ao (comp N T a) fun x=>ao (comp N T b) fun y=>some (aP.cond f x y))=some k.erase from d);obtain⟨al,w,d⟩:=av.1 d;obtain⟨y,C,d⟩:=av.1 d;obtain⟨A,kb,rfl,rfl,rfl⟩:=agv (Option.some.inj d) o;obtain⟨J,Y⟩:=(cu _ _).mp (show and (uq G n x) (and (codeOk G n a) (codeOk G n b))=true from v);obtain⟨s,u⟩:=(cu _ _).mp Y;simp at q;have z:r4 (f F) (wp P G A F H Q) (wp P G kb F H Q):=h;unfold r4 at z;split at z
   ·rename_i e;exact yS J K e (r a A aa w p.1 s F H Q z)
   ·rename_i e;exact yS J K e (r b kb aa C p.2 u F H Q z)
   ·exact z.elim
  |block id b=>
   obtain⟨x,w,d⟩:=av.1 (show ao (comp N T b) (fun x=>some (aP.block id x))=some k.erase from d);obtain⟨kb,rfl,rfl⟩:=agu (Option.some.inj d) o;simp at q;exact DD (r b kb aa w p v F H _ h)
  |loop b=>
   obtain⟨x,w,d⟩:=av.1 (show ao (comp N T b) (fun x=>some (aP.loop x))=some k.erase from d);obtain⟨kb,rfl,rfl⟩:=agx (Option.some.inj d) o;obtain⟨I,j,s,u⟩:=h;simp at q;exact DG I (fun i F H hi=>r b kb aa w p v F H _ (u i F H hi)) s
  |rangeFunc g ps a b=>cases d
  |exit id=>
   have d:some (aP.exit id)=some k.erase:=d;cases agw (Option.some.inj d) o;exact DE h
  |scope b=>
   simp at q;exact DJ (r b k aa d p v F H Q h)
  |label l=>
   have d:some aP.skip=some k.erase:=d;cases NN (Option.some.inj d) o;exact DF h
  |goto l=>cases d
  |ret=>
   have d:some aP.ret=some k.erase:=d;cases agz (Option.some.inj d) o;exact DI h
  |refuse l=>cases d
variable{A:FuncId}{b:List V}
theorem T6(hT:cR P T)(b7:jU P N)(fY:P.follows .mixedOrders=true){fn:Func}{m:aP}{f:List gy}(u:N.get aM A=some fn)(a:sC G N T fn=some (M,f))(w:m.erase=M)
 (hl:bM (cr b) fn.ntmps=true) (s:m.o7 c.next fn.ntmps) (h:jr P G m (gk f I) (lR b 0 .nil) c):fk P G (.fn A) b c I:=by
 subst w;obtain⟨o,q,a⟩:=av.1 a;cases k:sJ G fn o with
 |false=>rw[k]at a;cases a
 |true=>
  rw[k]at a;obtain⟨y,v,a⟩:=av.1 (show ao (comp N T o) (fun M=>ao (A4 T fn.results.toList) fun r=>some (M,r))=some (m.erase,f)from a);obtain⟨z,p,a⟩:=av.1 a;cases a;have t:codeOk G fn.ntmps o=true:=by
   unfold sJ at k;rw[cu,cu]at k;exact k.2.1
  refine Ee hT b7 u q (by rw[k,hl];rfl) (AL (fun x n j g=>?_) (ar2 hT b7 fY _ o m (aE _) v s t _ _ _ h));cases x with
  |exit i=>exact g.elim
  |norm=>
   refine⟨aB,?_⟩;have d:qg I j (lF n j f):=g;cases e:lF n j f with
   |none=>rw[e]at d;exact d.elim
   |some l=>rw[e]at d;exact⟨l,(Cy p).trans e,d⟩
  |ret=>
   refine⟨aB,?_⟩;have d:qg I j (lF n j f):=g;cases e:lF n j f with
   |none=>rw[e]at d;exact d.elim
   |some l=>rw[e]at d;exact⟨l,(Cy p).trans e,d⟩
end
def kY(f:Nat→V):Nat→Fr
 |0=>.nil
 |n+1=>put (kY f n) (some n) (f n)
theorem qJ(f:Nat→V):∀ {n t:Nat},t<n→rd t (kY f n)=f t
 |n+1,t,h=>by
  show rd t (put (kY f n) (some n) (f n))=_;rw[Ht];by_cases e:n=t
  ·rw[ak e,e]
  ·rw[aj e];exact qJ f aa
section
variable {P:Program}{G:Nat}{F:Fr}{H:af}{R:X→Fr→af→Prop}
theorem Iw{B:Nat}(b:af)(f:Nat→V)(d:Cut B H b)(e:∀t,t<a→bR H b (rd t F) (f t))(h:jr P G M R (kY f a) b):jr P G (.cut B a M) R F H:=
 ⟨kY f a,b,d,fun t c=>by rw[show(kY f a).get V.undef t=rd t (kY f a)from rfl,qJ f c];exact e t c,h⟩
@[go_sem]theorem atg{F:Fr}{H:af}(b:Bool)(c:bP):q2 P G b c i e F H (.az [])=e (put F i V.undef) H:=rfl
def ew(g:List V→Option aY)(a:List (Fr→V)):bP:=.pu a g
@[go_sem↓]theorem as2(g:List V→Option aY)(a:List (Fr→V)):dA P G (ew g a) i F H e=gx i e F H (g (vals a F)):=rfl
end
theorem u6{a b c:Nat}(h:c≤1):dR [.int .u64 (a:Int),.int .u64 (b:Int),.int .u64 (c:Int)]=some (.val (.az [.int .u64 (((a+b+c)%18446744073709551616:Nat):Int),.int .u64 (((a+b+c)/18446744073709551616:Nat):Int)])):=by
 show aQ (bM c 1) _=_;rw[jH h];rfl
theorem CX{a b c:Nat}(h:c≤1):dP [.int .u64 (a:Int),.int .u64 (b:Int),.int .u64 (c:Int)]=some (.val (.az [.int .u64 (((a+18446744073709551616-b-c)%18446744073709551616:Nat):Int),.int .u64 ((if b+c≤a then 0 else 1:Nat):Int)])):=by
 show aQ (bM c 1) (some (aY.val (.az [_,.int .u64 (.ofNat (Bool.casesOn (motive:=fun _=>Nat) (bM (b+c) a) 1 0))])))=_;rw[jH h];by_cases e:b+c≤a
 ·rw[jH e,ak e];rfl
 ·rw[show bM (b+c) a=false from mY.2 fun d=>e ((eZ _ _).1 d),aj e];rfl
inductive aI (H:af) (sz:Nat):V→List V→Nat→Prop
 |nil:aI H sz .an [] 0
 |cells {b n g f:Nat}{xs:List V} (hb:H.get b=.cells xs g) (hg:H.get g=.bB b f) (hf:f≤b) (h0:g≠0) (hn:xs.length=n*sz) (hl:g<H.next) (auX:b<H.next):aI H sz (.slice b 0 n (.grown sz)) xs g
theorem xN(b:c.get h=.bB L u)(d:u≤a):c.fR a h=true:=gq.2 (.inr ⟨L,u,b,d⟩)
variable{b:List V}
theorem aI.other{d:af}{v:V}{A:List V}(l:aI c a v b u)(o:aI c h s A L)(B:c.next≤d.next)(i:∀y,y<c.next→(L=0∨y≠L)→d.get y=c.get y)(w:L=0∨L≠u):aI d a v b u:=by
 cases l with
 |nil=>exact .nil
 |cells g t r n x hl q=>
  rename_i j m f;have p:L=0∨j≠L:=by
   cases o with
   |nil=>exact .inl rfl
   |cells kb z aR C F E D=>
    refine .inr fun e=>?_
    rw[e,z]at g;cases g
  exact .cells (by rw[i _ q p];exact g) (by rw[i _ hl (w.imp id fun e k=>e k.symm)];exact t) r n x aa aa
theorem aI.push{v:V}(d:aI c a v b h)(o:cP):aI (c.push o) a v b h:=by
 cases d with
 |nil=>exact .nil
 |cells f j i e k hl g=>
  exact .cells (by rw[af.bf,aj aa];exact f) (by rw[af.bf,aj aa];exact j) i e k (Nat.lt_succ_of_lt hl) (Nat.lt_succ_of_lt g)
theorem aI.set{v:V}{y:Nat}{cs:List V}(j:aI c a v b h)(i:c.get y=.cells cs 0)(o:cP):aI (c.set y o) a v b h:=by
 cases j with
 |nil=>exact .nil
 |cells d f l g m hl k=>
  refine .cells ?_ ?_ l g m hl k
  ·rw[af.aK,aj (fun e=>?_)]
   ·exact d
   ·rw[←e,i]at d;cases d;exact g rfl
  ·rw[af.aK,aj (fun e=>?_)]
   ·exact f
   ·rw[←e,i]at f;cases f
theorem aI.low{d:af}{v:V}(f:aI c a v b h)(e:∀z,z<c.next→d.get z=c.get z)(n:c.next≤d.next):aI d a v b h:=by
 cases f with
 |nil=>exact .nil
 |cells i l k g m hl j=>exact .cells (by rw[e _ j];exact i) (by rw[e _ hl];exact l) k g m aa aa
theorem aI.slice{v:V}{f:List V}(e:aI c a v f h)(d:h≠0):∃b n,v=.slice b 0 n (.grown a):=by
 cases e with
 |nil=>exact absurd rfl d
 |cells i d k g m hl j=>exact⟨_,_,rfl⟩
theorem aI.ne{v:V}{y:Nat}{cs:List V}{k:Nat}(f:aI c a v b h)(d:c.get y=.cells cs k):h=0∨y≠h:=by
 cases f with
 |nil=>exact .inl rfl
 |cells j g m i n hl l=>
  refine .inr fun e=>?_
  rw[e,g]at d;cases d
theorem aI.len{v:V}(d:aI c a v b h)(e:0<a):cT v=some (.val (.int .i64 ((b.length/a:Nat):Int))):=by
 cases d with
 |nil=>simp[cT];rfl
 |cells i m l g f hl j=>
  rw[f,uW _ e];rfl
theorem y9(d:c.get a=.cells b h)(hl:c.fR a h=true):c.cells? a=some b:=by
 unfold af.cells?;rw[d];show aQ (c.fR a h) _=_;rw[hl];rfl
theorem aI.cS{d:Cap}{g:Nat}(e:aI c u (.slice a h L d) b g)(k:Nat):c.cS a 0 k=cq b k:=by
 cases e with
 |cells f j i l n hl m=>
  unfold af.cS;rw[y9 f (xN j i)];show cq (eC b 0) k=_;rw[c_]
theorem iC(h:b.length=a):cq b a=some b:=by
 rw[e4,ak aa,b_ aa]
theorem aI.di{H H2:af}{v:V}{i:List V}(j:aI H a v b h)(p:0<a)(l:∀y,h≠0→H.get y=.cells b h→H2.get y=.none)(c:cD H H2 b i):∃n,bR H H2 v (.row n i)∧n*a=b.length:=by
 cases j with
 |nil=>cases c;exact⟨0,.fK,aB⟩
 |cells d o m k g hl r=>
  rename_i q n f;refine⟨n,?_,g.symm⟩;by_cases e:n=0
  ·subst e;have:b=[]:=List.length_eq_zero_iff.1 aa;subst this;cases c;exact .eW _ _ _
  ·refine .row (m:=n*a) ?_ (Nat.mul_pos (ld e) p) (l _ k d) c;unfold af.cS;rw[y9 d (xN o m)];show cq (eC b 0) (n*a)=_;rw[c_,iC g]
theorem rH(h:a≠0):fh a=false:=by
 cases a with
 |zero=>exact absurd rfl h
 |succ a=>rfl
theorem qq(b:a≤1099511627776∧a*h≤1099511627776):je a h=true:=by
 unfold je;rw[jH b.1,jH (show dQ a h≤_ from b.2)];rfl
section
variable {P:Program}{G:Nat}{F:Fr}{H:af}{d:Option Nat}{K:Fr→af→Prop}
theorem NA{bytes n:Nat}{v:V}{new:List V}(k:aI H a v b h)(D:kX s=some n)(E:dS H a n s=some new)(L:n≠0)(hl:new.length=n*a)(u:0<a)(M:cG new=true)(r:b.length+new.length≤1073741824∧bytes≤1024)(Q:H.next≠0)
 (t:∀z i o,aI i a z (b++new) o→(h=0∧o=H.next+1∨h≠0∧o=h)→(∀y,y<H.next→(h=0∨y≠h)→i.get y=H.get y)→H.next<i.next→K (put F d z) i):gj d K F (fH a bytes [v,s] H):=by
 have A:fH a bytes [v,s] H=jX a bytes v n new H:=by
  show ao (kX s) (fun n=>ao (dS H a n s) fun new=>jX a bytes v n new H)=_;rw[D];show ao (dS H a n s) _=_;rw[E];rfl
 have x:=rH L;have T:n≤n*a:=Nat.le_mul_of_pos_right n u;have C:∀(g:List V) (m:Nat),g.length=m*a→aI ((H.push (.cells g (Nat.succ H.next))).push (.bB H.next H.next)) a (.slice H.next 0 m (.grown a)) g (H.next+1):=by
  intro g m J;refine .cells (f:=H.next) ?_ ?_ (aE _) aa J ?_ ?_
  ·rw[af.bf,aj (by show¬(H.next+1=H.next);omega),af.bf,ak rfl]
  ·rw[af.bf,ak (show(H.push (.cells g (Nat.succ H.next))).next=H.next+1 from rfl)]
  ·show H.next+1<H.next+1+1;omega
  ·show H.next<H.next+1+1;omega
 have B:∀(g:List V) y,y<H.next→((H.push (.cells g (Nat.succ H.next))).push (.bB H.next H.next)).get y=H.get y:=by
  intro g y p;rw[af.bf,aj (by show¬(H.next+1=y);omega),af.bf,aj aa]
 rw[A];cases k with
 |nil=>
  have l:jX a bytes .an n new H=lz H a n new:=by
   show Bool.casesOn (motive:=fun _=>Option (V×af)) (fh n) (aQ (je n bytes) (lz H a n new)) _=_;rw[x,qq ⟨aa,cy (j_ (aa:n≤1073741824) r.2) ag⟩];rfl
  rw[l];exact t _ _ _ (C new n hl) (.inl ⟨rfl,rfl⟩) (fun y p _=>B _ y p) (by show H.next<H.next+1+1;omega)
 |cells q k G j w R P=>
  rename_i c m f;have S:m≤m*a:=Nat.le_mul_of_pos_right m u;have I:H.cS c 0 (m*a)=some b:=by
   unfold af.cS;rw[y9 q (xN k G)];show cq (eC b 0) (m*a)=_;rw[c_,iC w]
  have l:jX a bytes (.slice c 0 m (.grown a)) n new H=some (.slice H.next 0 (m+n) (.grown a),(H.push (.cells (b++new) h)).set h (.bB H.next H.next)):=by
   show Bool.casesOn (motive:=fun _=>Option (V×af)) (fh n) (aQ (je (m+n) bytes) (aQ (and (bn a a) (cG new)) (ao (H.cS c 0 (m*a)) fun O=>o4 H a c (m+n) (cW O new)))) _=_;rw[x,qq ⟨aa,cy (j_ (aa:m+n≤1073741824) r.2) ag⟩,M,show bn a a=true from sn a,I];show o4 H a c (m+n) (cW b new)=_;unfold o4;rw[q];show cP.casesOn (motive:=fun _=>Option (V×af)) (H.get h) _ _ _ _=_;rw[k];show aQ (and (bn c c) (!(fh h))) _=_;rw[show bn c c=true from sn c,rH j,iP];rfl
  rw[l];refine t _ _ h ?_ (.inr ⟨j,rfl⟩) (fun y p N=>?_) (by show H.next<H.next+1;omega)
  ·refine .cells (f:=H.next) ?_ ?_ (aE _) j (by rw[aS,w,hl,cF]) ?_ ?_
   ·rw[af.aK,aj aa,af.bf,ak rfl]
   ·rw[af.aK,ak rfl]
   ·show h<H.next+1;omega
   ·show H.next<H.next+1;omega
  ·rw[af.aK,aj (fun e=>(N.resolve_left j) e.symm),af.bf,aj aa]
end
def cl(l:List UInt8):List V:=l.map fun c=>V.int .u8 (c.toNat:Int)
theorem D6:∀l:List UInt8,bytesOf (cl l)=some l
 |[]=>rfl
 |c::l=>by
  show aQ (bM (Nat.succ c.toNat) 256) (ao (bytesOf (cl l)) fun r=>some (gJ c.toNat::r))=_;rw[D6 l,jH (by have:=c.toNat_lt;omega)];show some (gJ c.toNat::l)=_;simp
theorem jc(l:List UInt8):(cl l).length=l.length:=by simp[cl]
variable{j:List UInt8}
theorem aI.str{v:V}(d:aI c 1 v (cl j) h):tg [v] c=some (.str j):=by
 cases f:v with
 |an=>
  subst f;generalize e:cl j=i at d
  cases d;cases j with
  |nil=>rfl
  |cons a j=>cases e
 |slice b o n l=>
  subst f;have g:=d.cS n;generalize e:cl j=i at d g
  cases d with
  |cells p t r m w u q=>
   show ao (c.cS b 0 n) (fun k=>ao (bytesOf k) fun s=>some (V.str s))=some (V.str j);rw[g,iC aa,←e];show ao (bytesOf (cl j)) _=_;rw[D6];rfl
 |_=>subst f;generalize cl j=i at d;cases d
theorem gW{H:af}{bytes:Nat}{v:V}{new:List V}(p:aI H a v b h)(hl:new.length=a)(s:0<a)(r:cG new=true)(o:b.length+a≤1073741824∧bytes≤1024)
 (q:∀g c f,aI c a g (b++new) f→(h=0∧H.next<f∨h≠0∧f=h)→(∀y,y<H.next→(h=0∨y≠h)→c.get y=H.get y)→H.next<c.next→e (put m i g) c):gj i e m (fH a bytes [v,.slice H.next 0 1 (.known 1)] (H.push (.cells new 0))):=by
 refine NA (n:=1) (new:=new) (p.push _) rfl ?_ ag (by rw[hl,ga]) s r (by rw[hl];exact o) (uY _) ?_
 ·show(H.push (.cells new 0)).cS H.next 0 (1*a)=some new
  rw[fJ (cs:=new) (by rw[af.bf,ak rfl]),c_,ga,iC hl]
 ·intro g c f j h2 k l;refine q g c f j ?_ (fun y t u=>?_) ?_
  ·rcases h2 with⟨h2,n⟩|h2
   ·exact .inl ⟨h2,by rw[n];show H.next<H.next+1+1;omega⟩
   ·exact .inr h2
  ·rw[k y (Nat.lt_succ_of_lt t) u,af.bf,aj aa]
  ·exact Nat.lt_of_succ_lt l
theorem NB{bytes:Nat}{v:V}(k:aI c 1 v b a)(n:s.one=true)(j:b.length+1≤1073741824∧bytes≤1024)
 (l:∀h f g,aI f 1 h (b++[s]) g→(a=0∧c.next<g∨a≠0∧g=a)→(∀y,y<c.next→(a=0∨y≠a)→f.get y=c.get y)→c.next<f.next→e (put m i h) f):gj i e m (fH 1 bytes [v,.slice c.next 0 1 (.known 1)] (c.push (.cells [s] 0))):=
 gW k rfl ag (by show and s.one true=true;rw[n];rfl) j l
theorem Gr(d:c.fR u L=true):sQ false a h c u (.cells b L)=cK b h:=by
 show(match c.fR u L,false with|true,false=>_|true,true=>_|false,_=>_)=_;rw[d]
section
mutual
theorem gV.free{σ:Nat→Nat}{k:Nat}:∀ {v:V},bz v→gV σ k v v
 |_,.bool b=>.bool b
 |_,.int k n=>.int k n
 |_,.str s=>.str s
 |_,.iW=>.iW
 |_,.an=>.an
 |_,.emp=>.emp
 |_,.j3=>.j3
 |_,.func f h1 h2=>.func f (jW.free h1) (jW.free h2)
 |_,.kJ=>.kJ
 |_,.kK=>.kK
 |_,.agg h=>.agg (jW.free h)
 |_,.az h=>.az (jW.free h)
 |_,.any=>.any _
 |_,.cell=>.cell rfl
 |_,.row n h=>.row n (jW.free h)
 |_,.cY j h=>.cY j (jW.free h)
 |_,.gM=>.gM
theorem jW.free{σ:Nat→Nat}{k:Nat}:∀ {l:List V},bY l→jW σ k l l
 |_,.nil=>.nil
 |_,.cons h h'=>.cons (gV.free h) (jW.free h')
end
def oq(G b:Nat)(y:Nat):Nat:=if y=G then b else y
section
variable {P:Program}{G:Nat}{φ:aG}{H:af}{w:World}
def af.one(G n:Nat)(a:List V):af:=⟨((af.zero G).push (.cells a 0)).m,n⟩
theorem af.kE{G:Nat}(y:Nat):(af.one G a b).get y=if y=G then .cells b 0 else .none:=by
 show((af.zero G).push (.cells b 0)).get y=_;rw[af.bf,af.e7];show(if G=y then _ else _)=_;by_cases e:y=G
 ·rw[ak e,ak e.symm]
 ·rw[aj e,aj (fun h=>e h.symm)]
variable{Q:Loc}
theorem tq(c:φ.view (oq G a) (G+1) h=some Q):(h=G∧φ a=some Q)∨(h<G∧φ h=some Q):=by
 obtain⟨d,b⟩:=aG.nF c;unfold oq at b;by_cases e:h=G
 ·rw[ak e]at b;exact .inl ⟨e,b⟩
 ·rw[aj e]at b;exact .inr ⟨aa,b⟩
theorem Rel.one(m:Rel φ H w)(q:H.get h=.cells b 0)(K:bY b)(N:G≤h):Rel (φ.view (oq G h) (G+1)) (af.one G (G+1) b) w:=by
 have A:∀ {y:Nat}{p:List V}{g:Nat},(af.one G (G+1) b).get y=.cells p g→y=G∧p=b∧g=0:=by
  intro y p g e;rw[af.kE]at e;split at e
  ·rename_i r;cases e;exact⟨r,rfl,rfl⟩
  ·cases e
 have F:∀ {y a D:Nat},(af.one G (G+1) b).get y≠ .bB a D:=by
  intro y a D e;rw[af.kE]at e;split at e<;>cases e
 refine⟨?_,?_,?_,?_,?_,?_,?_,?_,?_,?_,?_⟩
 ·intro y l p g i v n d s E;obtain⟨rfl,rfl,rfl⟩:=A d;rcases tq n with⟨_,e⟩|⟨r,_⟩
  ·obtain⟨M,B,C⟩:=m.cell e q rfl E;exact⟨M,B,aJ.free (φ:=φ) (ψ:=φ.view (oq y h) (y+1)) (fun _ _ e=>e) (bY.iff.1 K _ (eT E)) C⟩
  ·omega
 ·intro y l i e r;rcases tq e with⟨_,e⟩|⟨_,e⟩
  ·exact m.room e r
  ·exact m.room e r
 ·intro y l p g n d;obtain⟨rfl,rfl,rfl⟩:=A d;rcases tq n with⟨_,e⟩|⟨r,_⟩
  ·exact m.len e q
  ·omega
 ·intro y Q l P n d s O;rcases tq n with⟨B,t⟩|⟨B,t⟩<;>rcases tq d with⟨C,u⟩|⟨C,u⟩
  ·omega
  ·rcases m.inj t u s aa with⟨_,_,g,z,j,_⟩|⟨j,_⟩
   ·rw[q]at j;cases j;exact absurd rfl z
   ·rw[q]at j;cases j
  ·rcases m.inj u t s.symm aa with⟨_,_,g,z,j,_⟩|⟨j,_⟩
   ·rw[q]at j;cases j;exact absurd rfl z
   ·rw[q]at j;cases j
  ·exact .inr ⟨by rw[af.kE,aj aa],by rw[af.kE,aj aa]⟩
 ·intro y I;have I:G+1≤y:=I;exact⟨aj aa,by rw[af.kE,aj aa]⟩
 ·intro y l e;rcases tq e with⟨_,e⟩|⟨_,e⟩
  ·exact m.loc e
  ·exact m.loc e
 ·intro y p g L J n d s;exact absurd s F
 ·intro g L J e;exact absurd e F
 ·intro y l o n d;rw[af.kE]at d;split at d<;>cases d
 ·intro c x e;refine(m.fC e).keep rfl ?_;intro y l n d;rcases tq n with⟨_,f⟩|⟨k,_⟩
  ·have:=(m.fC e).off _ _ f d;rw[q]at this;cases this
  ·rw[af.kE,aj aa]
 ·intro y p g e;obtain⟨_,_,rfl⟩:=A e;exact lf _
variable{A:FuncId}
theorem Kx{args2:List V}{U:List V}{R:V→List V→Prop}(F:H.get u=.cells U 0)(be:bY U)(bd:G≤u)(hm:∃o,V.ptr u o∈b)(ha:jW (oq G u) (G+1) b args2)
 (X:fk P G (.fn A) args2 (af.one G (G+1) U) fun v1 B=>∃v jt,B.get G=.cells jt 0∧bY jt∧bR B (af.one G B.next jt) v1 v∧bz v∧R v jt):
 fk P G (.fn A) b H fun v B=>∃jt,R v jt∧B=H.set u (.cells jt 0):=by
 refine⟨X.1,fun φ w a9 p hg a3=>(X.2 (φ.view (oq G u) (G+1)) w a9 (p.one F be bd) ?_ (bm.view ha a3)).mono ?_⟩
 ·intro g b0;obtain⟨cf,e⟩:=hg g b0;refine⟨cf,aG.tr aa ?_⟩;show φ (if g=G then u else g)=_;rw[aj aa];exact e
 ·rintro e w' ⟨v1,v',B,ψ,rfl,z,ca,v,jt,a6,bi,bo,bj,hR⟩;obtain⟨K,C⟩:∃l,φ u=some l:=by
   obtain⟨o,hm⟩:=hm;obtain⟨i,hi⟩:=List.getElem?_of_mem hm;obtain⟨x,_,hx⟩:=a3.get i _ hi;cases hx with
   |ptr h=>exact⟨_,h⟩
  have cs:u<H.next:=tI fun h=>by
   have:=(p.top h).1;rw[C]at this;cases this
  have b2:φ.view (oq G u) (G+1) G=some K:=aG.tr aa (by show φ (if G=G then u else G)=_;rw[ak rfl];exact C);have bv:∀y,y<G→B.get y=.none:=by
   intro y m;have D:(af.one G (G+1) U).get y=.none:=by rw[af.kE,aj aa]
   cases d:φ.view (oq G u) (G+1) y with
   |some l=>exact(z.jx d D).1
   |none=>
    rw[z.nX (aa:y<G+1) d (fun a u j=>by rw[D]at j;cases j)];exact D
  have al:Cut (G+1) B (af.one G B.next jt):=by
   refine⟨fun y=>?_,rfl,fun y y' c1 c2 g D s E L=>?_⟩
   ·rw[af.kE];by_cases m:y=G
    ·rw[ak m,m,a6];exact .inl rfl
    ·rw[aj m];by_cases ar:y<G
     ·exact .inl (bv y ar).symm
     ·exact .inr ⟨aa,rfl⟩
   ·rw[af.kE];split
    ·rename_i e;subst e;rw[a6]at E;cases E;exact absurd rfl D
    ·rfl
  have ab:=z.rel.cut al;have Y:=(z.yu (aE (G+1))).trans (z.rel.xy al z.next)
  have a7:=aJ.di z.rel al bo ca;generalize ψ.di B (af.one G B.next jt) w'=I at ab Y a7
  have a0:I G=some K:=Y.le (mm G) b2;have hz:(af.one G B.next jt).get G=.cells jt 0:=by rw[af.kE,ak rfl]
  have Z:∀ {n:Nat},n<w.heap.size→K.c≠n→w'.heap[n]? =w.heap[n]? :=by
   intro n X S;by_cases F:∃b' l,φ.view (oq G u) (G+1) b'=some l∧l.c=n
   ·obtain⟨b',l,d,rfl⟩:=F;rcases tq d with⟨_,A⟩|⟨k,_⟩
    ·rw[C]at A;cases A;exact absurd rfl S
    ·exact(z.jx d (by rw[af.kE,aj aa])).2
   ·exact z.lU X (fun u l d j=>F ⟨u,l,d,j⟩)
  have Q:∀ {y:Nat}{l:Loc},y≠u→φ y=some l→K.c≠l.c:=by
   intro y l m e h;rcases p.inj C e h (fun e=>m e.symm)with⟨_,_,g,D,s,_⟩|⟨s,_⟩
   ·rw[F]at s;cases s;exact absurd rfl D
   ·rw[F]at s;cases s
  have a4:∀n x,I.im n=some x→φ.im n=some x∨w.heap.size≤n∨K.c=n:=by
   intro n x e;rcases Y.ni n x e with h|h|⟨b',l,s,E,L⟩
   ·exact .inl h
   ·exact .inr (.inl h)
   ·rcases tq s with⟨_,A⟩|⟨k,_⟩
    ·rw[C]at A;cases A;exact .inr (.inr E)
    ·exact absurd (by rw[af.kE,aj aa]) L
  have am:φ.le ⟨φ.f,I.im⟩:=⟨fun _ _ e=>e,Y.xK⟩;have a5:∀ {x:V}{O:Value},bz x→aJ I x O→aJ ⟨φ.f,I.im⟩ x O:=fun h r=>aJ.free (φ:=I) (ψ:=⟨φ.f,I.im⟩) (fun _ _ e=>e) h r
  have t:∀ {y:Nat},y≠u→(H.set u (.cells jt 0)).get y=H.get y:=fun h=>by rw[af.aK,aj (fun e=>h e.symm)]
  have J:(H.set u (.cells jt 0)).get u=.cells jt 0:=by rw[af.aK,ak rfl]
  have b1:Rel ⟨φ.f,I.im⟩ (H.set u (.cells jt 0)) w':=by
   refine⟨?_,fun d j=>z.same.free (p.room d j),?_,?_,?_,fun d=>eG (p.loc d) z.size,?_,?_,?_,?_,?_⟩
   ·intro y l ad g i x d j q ae;by_cases m:y=u
    ·subst m;rw[J]at j;cases j;have d:φ y=some l:=d;rw[C]at d;cases d;obtain⟨O,N,T⟩:=ab.cell a0 hz rfl ae;exact⟨O,N,a5 (bY.iff.1 bi _ (eT ae)) T⟩
    ·rw[t m]at j;have hl:H.fR y g=true:=by
      rcases gq.1 q with e|⟨a,n,W,a'⟩
      ·exact gq.2 (.inl e)
      ·refine gq.2 (.inr ⟨a,n,?_,a'⟩);by_cases M:g=u
       ·rw[M,J]at W;cases W
       ·rw[t M]at W;exact W
     obtain⟨O,N,T⟩:=p.cell d j hl ae;refine⟨O,?_,T.mono am⟩;unfold World.cell? at N⊢;rw[Z (p.loc d) (Q m d)];exact N
   ·intro y l ad g d j;by_cases m:y=u
    ·subst m;rw[J]at j;cases j;have d:φ y=some l:=d;rw[C]at d;cases d;exact ab.len a0 hz
    ·rw[t m]at j;exact p.len d j
   ·intro y y' l l' d j q S;have m:y≠u:=fun e=>by
     subst e;have d:φ y=some l:=d;rw[C]at d;cases d;exact Q (fun h=>S h.symm) j q
    have ar:y'≠u:=fun e=>by
     subst e;have j:φ y'=some l':=j;rw[C]at j;cases j;exact Q S d q.symm
    rw[t m,t ar];exact p.inj d j q S
   ·intro y m;have m:H.next≤y:=m
    obtain⟨s,E⟩:=p.top m;exact⟨s,by rw[t aa];exact E⟩
   ·intro y ad g ce ba d j q;have m:y≠u:=fun e=>by rw[e,J]at d;cases d;exact j rfl
    have M:g≠u:=fun e=>by rw[e,J]at q;cases q
    rw[t m]at d;rw[t M]at q;exact p.mem d j q
   ·intro g ce ba q;have M:g≠u:=fun e=>by rw[e,J]at q;cases q
    rw[t M]at q;exact p.mF q
   ·intro y l o d j;have m:y≠u:=fun e=>by rw[e,J]at j;cases j
    rw[t m]at j;obtain⟨N,T⟩:=p.ck d j;exact⟨N,T.mono am (Z (p.loc d) (Q m d))⟩
   ·intro n x e;have hi:=ab.fC e;refine⟨hi.obj,hi.kind,fun y l d j=>?_⟩;have d:φ y=some l:=d;rcases a4 n x e with h|h|h
    ·have L:=(p.fC h).off y l d j;rw[t (fun e=>by rw[e,F]at L;cases L)];exact L
    ·have:=p.loc d;omega
    ·have:=hi.off G K a0 h;rw[hz]at this;cases this
   ·intro y ad g e;by_cases m:y=u
    ·rw[m,J]at e;cases e;show 0<H.next
     omega
    ·rw[t m]at e;exact p.mG e
  refine⟨v,v',H.set u (.cells jt 0),⟨φ.f,I.im⟩,rfl,⟨b1,am,fun s E=>absurd (s.symm.trans E) aB,?_,aE _,?_,z.size,z.same,?_,?_⟩,a5 bj a7,jt,hR,rfl⟩
  ·intro y _ D _;exact t fun e=>by rw[e,C]at D;cases D
  ·intro n s E;exact Z s (E u K C)
  ·intro y l d j;have m:y≠u:=fun e=>by rw[e,F]at j;cases j
   exact⟨by rw[t m];exact j,Z (p.loc d) (Q m d)⟩
  ·intro n x e;rcases a4 n x e with h|h|h
   ·exact .inl h
   ·exact .inr (.inl h)
   ·exact .inr (.inr ⟨u,K,C,h,by rw[F];simp⟩)
end
end
def FX(n:Nat)(H:af):V→V→Bool:=
 Nat.rec (motive:=fun _=>V→V→Bool) (fun _ _=>false) (fun _ c v d=>match v,d with
  |.slice b o k _,.row f a=>and (bn k f) (match k,a with
    |0,[]=>true
    |0,_=>false
    |_,[]=>false
    |_,_=>(match H.cS b o (cr a)with
     |some e=>fQ c e a
     |none=>false))
  |.an,.row 0 []=>true
  |.emp,.row 0 []=>true
  |.gM,.row 0 []=>true
  |.agg x,.agg y=>fQ c x y
  |.az x,.az y=>fQ c x y
  |v,d=>rX 20 v d) n
variable{H:af}
theorem BM{f:V→V→Bool}(g:∀v i,f v i=true→bR c H v i):∀ {l d:List V},fQ f l d=true→cD c H l d
 |[],[],_=>.nil
 |[],_::_,h=>by cases h
 |_::_,[],h=>by cases h
 |a::l,b::d,h=>by
  have e:and (f a b) (fQ f l d)=true:=h;rw[cu]at e;exact .cons (g a b e.1) (BM g e.2)
theorem ahm:∀(n:Nat) (v g:V),FX n c v g=true→bR c (af.zero h) v g:=by
 intro n;induction n with
 |zero=>intro v g d;cases d
 |succ n i=>
  intro v g d;have p:rX 20 v g=true→bR c (af.zero h) v g:=fun d=>by rw[It _ _ _ d];exact .same _
  unfold FX at d;simp only at d;split at d
  ·rename_i b o m q s j;rw[cu]at d;obtain⟨k,f⟩:=d;have e:=(beq_eq _ _).1 k;subst e;cases m with
   |zero=>
    cases j with
    |nil=>exact .eW _ _ _
    |cons a l=>cases f
   |succ m=>
    cases j with
    |nil=>cases f
    |cons a l=>
     simp only at f;cases hl:c.cS b o (cr (a::l))with
     |none=>rw[hl]at f;cases f
     |some r=>
      rw[hl]at f;exact .row hl (lf _) (af.e7 _ _) (BM i f)
  ·exact .fK
  ·exact .CD
  ·exact .CC
  ·exact .agg (BM i d)
  ·exact .az (BM i d)
  ·exact p d
def Bz(n:Nat):V→Bool:=
 Nat.rec (motive:=fun _=>V→Bool) (fun _=>false) (fun _ a v=>match v with
  |.bool _=>true
  |.int _ _=>true
  |.str _=>true
  |.iW=>true
  |.an=>true
  |.agg x=>lW a x
  |.az x=>lW a x
  |.row _ x=>lW a x
  |_=>false) n
theorem BI{f:V→Bool}(a:∀v,f v=true→bz v)(h:lW f b=true):bY b:=bY.iff.2 fun v c=>a v (uf.1 h v c)
theorem NS:∀(n:Nat) (v:V),Bz n v=true→bz v:=by
 intro n;induction n with
 |zero=>intro v h;cases h
 |succ n a=>
  intro v h;unfold Bz at h;cases v<;>first|(exact .bool _)|(exact .int _ _)|(exact .str _)|(exact .iW)|(exact .an)|(exact .agg (BI a h))|(exact .az (BI a h))|(exact .row _ (BI a h))|(cases h)
def pM(G:Nat)(C:jR)(f:FuncId)(a:List V)(r:V):Bool:=
 match C (.fn f) a (af.zero G)with
 |some (v,H)=>and (FX 20 H v r) (and (Bz 20 r) (lW (Bz 20) a))
 |none=>false
variable{A:FuncId}
theorem rQ{P:Program}{C:jR}(i:oP P a C)(h:pM a C A b s=true):∀H,fk P a (.fn A) b H fun v c=>v=s∧c=H:=by
 unfold pM at h;cases e:C (.fn A) b (af.zero a)with
 |none=>rw[e]at h;cases h
 |some x=>
  obtain⟨v,c⟩:=x;rw[e]at h;simp only[cu]at h;obtain⟨d,f,g⟩:=h;have j:=NS _ _ f;refine pJ (R:=fun v=>v=s) (BI (NS 20) g) ((i e).mono ?_);rintro l k ⟨rfl,rfl⟩;exact⟨s,ahm _ _ _ d,j,rfl⟩
def aP.lY:aP→Bool
 |.seq a b=>a.lY&&b.lY
 |.cond _ a b=>a.lY&&b.lY
 |.block _ b=>b.lY
 |.loop b=>b.lY
 |.cut _ _ _=>false
 |_=>true
def aP.cutAt(B n:Nat):Nat→aP→aP
 |d+1,.seq a b=>.seq a (aP.cutAt B n d b)
 |0,c=>.cut B n c
 |_+1,c=>c
theorem vM:∀ {c:aP},c.lY=true→c.erase=c
 |.seq a b,h=>by
  have h:=(cu _ _).mp (show(a.lY&&b.lY)=true from h);show aP.seq _ _=_;rw[vM h.1,vM h.2]
 |.cond x a b,h=>by
  have h:=(cu _ _).mp (show(a.lY&&b.lY)=true from h);show aP.cond _ _ _=_;rw[vM h.1,vM h.2]
 |.block i b,h=>by
  show aP.block _ _=_;rw[vM (c:=b) h]
 |.loop b,h=>by
  show aP.loop _=_;rw[vM (c:=b) h]
 |.cut _ _ _,h=>by cases h
 |.skip,_=>rfl
 |.ret,_=>rfl
 |.exit _,_=>rfl
 |.bN _,_=>rfl
theorem vN{B:Nat}:∀ {c:aP},c.lY=true→c.o7 B h
 |.seq a b,d=>by
  have d:=(cu _ _).mp (show(a.lY&&b.lY)=true from d);exact⟨vN d.1,vN d.2⟩
 |.cond x a b,d=>by
  have d:=(cu _ _).mp (show(a.lY&&b.lY)=true from d);exact⟨vN d.1,vN d.2⟩
 |.block i b,d=>vN (c:=b) d
 |.loop b,d=>vN (c:=b) d
 |.cut _ _ _,d=>by cases d
 |.skip,_=>trivial
 |.ret,_=>trivial
 |.exit _,_=>trivial
 |.bN _,_=>trivial
theorem KN{B:Nat}:∀ {d:Nat}{c:aP},(aP.cutAt B h d c).erase=c.erase
 |d+1,.seq a b=>by
  show aP.seq _ (aP.cutAt B h d b).erase=aP.seq _ _;rw[KN]
 |0,c=>by cases c<;>rfl
 |_+1,.cond _ _ _=>rfl
 |_+1,.block _ _=>rfl
 |_+1,.loop _=>rfl
 |_+1,.cut _ _ _=>rfl
 |_+1,.skip=>rfl
 |_+1,.ret=>rfl
 |_+1,.exit _=>rfl
 |_+1,.bN _=>rfl
theorem KO{B:Nat}(f:B≤u)(g:h≤L):∀ {d:Nat}{c:aP},c.o7 B h→(aP.cutAt u L d c).o7 B h
 |d+1,.seq a b,e=>⟨e.1,KO f g e.2⟩
 |0,c,e=>by cases c<;>exact⟨f,g,e⟩
 |_+1,.cond _ _ _,e=>e
 |_+1,.block _ _,e=>e
 |_+1,.loop _,e=>e
 |_+1,.cut _ _ _,e=>e
 |_+1,.skip,e=>e
 |_+1,.ret,e=>e
 |_+1,.exit _,e=>e
 |_+1,.bN _,e=>e
section
variable {P:Program}{G:Nat}{N:eO}{T:cg}
theorem Ef(hT:cR P T)(b7:jU P N)(fY:P.follows .mixedOrders=true){a:Func}{f:List gy}(g:N.get aM A=some a)(i:sC G N T a=some (M,f))(e:M.lY=true)(d n:Nat)(j:bM a.ntmps n=true)
 (hl:bM (cr b) a.ntmps=true) (h:jr P G (aP.cutAt c.next n d M) (gk f I) (lR b 0 .nil) c):fk P G (.fn A) b c I:=
 T6 hT b7 fY g i (KN.trans (vM e)) hl (KO (aE _) ((eZ _ _).1 j) (vN e)) h
end
def B_(H:af):Nat→aO cP
 |0=>.nil
 |k+1=>(B_ H k).set .none k (H.get k)
def af.low(H:af)(k:Nat):af:=⟨B_ H k,H.next⟩
theorem af.qw(H:af):∀(k y:Nat),(H.low k).get y=if y<k then H.get y else .none
 |0,y=>by
  rw[aj (ke _)];exact aO.get_nil _ _
 |k+1,y=>by
  show((B_ H k).set .none k (H.get k)).get .none y=_;rw[aO.aK];by_cases e:k=y
  ·rw[ak e,ak aa,e]
  ·rw[aj e];have:=af.qw H k y;rw[show(B_ H k).get .none y=(H.low k).get y from rfl,this];by_cases h:y<k
   ·rw[ak h,ak aa]
   ·rw[aj h,aj aa]
theorem En{B:Nat}(m:B≤a)(hl:∀y e g,y<a→c.get y=.cells e g→g=0):Cut B c (c.low a):=by
 refine⟨fun y=>?_,rfl,fun y b j d g f k i l=>?_⟩
 ·rw[af.qw];by_cases h:y<a
  ·rw[ak h];exact .inl rfl
  ·rw[aj h];exact .inr ⟨aa,rfl⟩
 ·rw[af.qw];by_cases h:b<a
  ·exact absurd (hl b d g h i) f
  ·rw[aj h]
theorem aI.ai0{v:V}(g:aI c a v b h)(d:h≠0):∃e f,c.get h=.bB e f:=by
 cases g with
 |nil=>exact absurd rfl d
 |cells j i l d m hl k=>exact⟨_,_,i⟩
theorem aI.tT{v:V}(j:aI c a v b h)(k:∀d f,c.get u≠ .bB d f):h=0∨u≠h:=by
 by_cases g:h=0
 ·exact .inl g
 ·obtain⟨d,f,e⟩:=j.ai0 g;exact .inr fun i=>k d f (i▸e)
theorem aI.F3{v:V}(g:aI c h v b L)(e:0<h)(hl:∀y f L,y<a→c.get y=.cells f L→L=0)(l:b.length=u*h):bR c (c.low a) v (.row u b):=by
 obtain⟨m,d,j⟩:=g.di (H2:=c.low a) e (fun y i n=>by
  rw[af.qw,aj];intro k;exact i (hl y b L k n)) (cD.refl _)
 have:m=u:=Nat.eq_of_mul_eq_mul_right e (j.trans l);rw[this]at d;exact d
end Go.au
namespace Go.Proofs.YtddhncjmaahodaaGreatDoor
open Go.au
def nJ:eO:=Of eP
def qh:cg:=Sg eP
theorem fY:eP.follows .mixedOrders=true:=by kernel_rfl
theorem hT:cR eP qh:=arp _
theorem b7:jU eP nJ:=ahh _
def yL(a:Func)(f:Nat)(c:aP)(l:List gy):Prop:=nJ.get aM f=some a∧sC 5 nJ qh a=some (c,l)
variable{h:Nat}{M:aP}
theorem Pc{c:Func}{l:List gy}(a:nJ.get aM h=some c:=by kernel_rfl)(b:sC 5 nJ qh c=some (M,l):=by kernel_rfl):yL c h M l:=⟨a,b⟩
abbrev ah(z:Int):V:=.int .i64 z
abbrev ay(z:Int):V:=.int .u64 z
abbrev aD:V:=.bool false
abbrev bO:V:=.bool true
abbrev c7(f:FuncId)(a:List V)(H:af)(Q:V→af→Prop):Prop:=fk eP 5 (.fn f) a H Q
abbrev bx(c:aP)(R:X→Fr→af→Prop)(F:Fr)(H:af):Prop:=jr eP 5 c R F H
variable{a:Nat}{b:List V}{c:af}{I:V→af→Prop}
theorem aT{d:Func}{l:List gy}(k:yL d a M l)(h:jr eP 5 M (gk l I) (lR b 0 .nil) c)(e:bM (cr b) d.ntmps=true:=by rfl):fk eP 5 (.fn a) b c I:=o6 hT b7 fY k.1 k.2 e h
def aW(f:Nat)(b:List V)(r:V):Prop:=∀H,c7 f b H fun v a=>v=r∧a=H
variable{s:V}
theorem cO(c:bY b)(d:bz s)(h:c7 a b (af.zero 5) fun v _=>v=s):aW a b s:=
 pJ (R:=fun v=>v=s) c (fk.mono (Q:=fun v _=>v=s) (fun v _ e=>⟨v,.same v,by rw[e];exact d,e⟩) h)
end Go.Proofs.YtddhncjmaahodaaGreatDoor
namespace Go.au
variable{m:Fr}{c:af}{i:Option Nat}{e:Fr→af→Prop}{a:Nat}{h:Nat}
theorem xw{bytes n:Nat}{cs:List V}(j:c.get h=.cells [] 0)(r:0<n)(d:cs.length=n*a)(s:0<a)(l:n≤1073741824∧bytes≤1024)
 (o:∀f b,aI b a f cs (c.next+1)→(∀y,y<c.next→b.get y=c.get y)→b.next=c.next+2→e (put m i f) b):gj i e m (fH a bytes [.slice h 0 0 (.known 0),.row n cs] c):=by
 have k:dS c a n (.row n cs)=some cs:=iC d;have g:fH a bytes [.slice h 0 0 (.known 0),.row n cs] c=lz c a n cs:=by
  show ao (some n) (fun n=>ao (dS c a n (.row _ cs)) fun p=>jX a bytes (.slice h 0 0 (.known 0)) n p c)=_;show ao (dS c a n (.row n cs)) _=_;rw[k];show Bool.casesOn (motive:=fun _=>Option (V×af)) (fh n) (aQ (je (0+n) bytes) (Bool.casesOn (motive:=fun _=>Option (V×af)) (bM (0+n) 0) (ao (c.cS h 0 (0*a)) fun q=>lz c a (0+n) (cW q cs)) (ao (c.e5 h (0+0*a) cs) fun c=>some (V.slice h 0 (0+n) (.known 0),c)))) _=_;rw[rH aa,qq ⟨aa,cy (j_ (aa:0+n≤1073741824) l.2) ag⟩,show bM (0+n) 0=false from by
   cases n with
   |zero=>omega
   |succ n=>rw[dK];rfl,fJ j]
  simp only[jb,c_,zD,zR,Cm,B5,dK]
 rw[g];refine o _ _ (.cells (f:=c.next) ?_ ?_ (aE _) aa d ?_ ?_) (fun y t=>?_) rfl
 ·rw[af.bf,aj (by show¬(c.next+1=c.next);omega),af.bf,ak rfl]
 ·rw[af.bf,ak (show(c.push (.cells cs (Nat.succ c.next))).next=c.next+1 from rfl)]
 ·show c.next+1<c.next+1+1;omega
 ·show c.next<c.next+1+1;omega
 ·rw[af.bf,aj (by show¬(c.next+1=y);omega),af.bf,aj aa]
theorem Gq:∀s t:List UInt8,fQ n7 s t=decide (s=t)
 |[],[]=>rfl
 |[],_::_=>rfl
 |_::_,[]=>rfl
 |a::s,b::t=>by
  show and (n7 a b) (fQ n7 s t)=_;rw[Gq s t,Io];by_cases c:a=b
  ·by_cases d:s=t
   ·simp[c,d]
   ·simp[d]
  ·simp[c]
@[go_sem]theorem J5(s t:List UInt8):pQ (qp .eql) [.str s,.str t]=some (.val (.bool (decide (s=t)))):=by
 show iU (fQ n7 s t)=_;rw[Gq];rfl
@[go_sem]theorem aug(s t:List UInt8):pQ (qp .neq) [.str s,.str t]=some (.val (.bool (!decide (s=t)))):=by
 show iU (!(fQ n7 s t))=_;rw[Gq];rfl
variable{j:List UInt8}
theorem HT{lo hi:Option V}{l h:Nat}(a:jI lo hi j.length j.length=some (l,h))(b:l≤h)(c:h≤j.length):v9 j lo hi=some (.val (.str ((j.drop l).take (h-l)))):=by
 unfold v9;rw[gO,a];show ao (cq (eC j l) (h-l)) _=_;rw[kG,e4,ak (by rw[gZ];omega)];rfl
variable{n:IntKind}{q:Int}
theorem we(h:0≤q∧q≤j.length):slice3 k4 true false false [.str j,.int n q]=some (.val (.str (j.drop q.toNat))):=by
 show v9 j (some (.int n q)) none=_;rw[HT (l:=q.toNat) (h:=j.length) (sA (mw n h.1) rfl aa (aE _)) aa (aE _)];rw[b_ (by rw[gZ];omega)]
theorem CT(a:0≤q∧q≤j.length):slice3 k4 false true false [.str j,.int n q]=some (.val (.str (j.take q.toNat))):=by
 show v9 j none (some (.int n q))=_;rw[HT (l:=0) (h:=q.toNat) (sA rfl (mw n a.1) aa aa) aa aa];simp
theorem oE{c:UInt8}(a:0≤q)(h:j[q.toNat]? =some c):kF [.str j,.int n q]=some (.val (.int .u8 (c.toNat:Int))):=by
 show ao (gm (.int n q)) _=_;rw[mw n a];show ao (cK j q.toNat) _=_;rw[gF,h];rfl
def sx(P:Program)(G:Nat)(b:Bool)(d:Option Nat)(l:List c3)(Q:Fr→af→Prop)(F:Fr)(H:af)(r:Option V)(v:V):Prop:=match nj b v with
 |some true=>pY P G d l Q F H r
 |some false=>gz P G l F H Q
 |none=>False
variable{p:Bool}{s:V}
@[congr]theorem atz{P:Program}{l:List c3}{r b:Option V}{v:V}(h:r=b)(d:v=s):sx P a p i l e m c r v=sx P a p i l e m c b s:=by rw[h,d]
section
variable {P:Program}{G:Nat}{F:Fr}{H:af}{Q:Fr→af→Prop}
@[go_sem↓]theorem atK(j:Nat)(b:Bool)(i:Nat)(g:Bool)(s:Nat)(x:Fr→V)(l:List c3):kf P G (rg j b i (bp g s x)::l) Q F H=sx P G b (some i) l Q F H (iq g s [x F] H) (rd j F):=by
 show(wv ⟨fun F=>nj b (rd j F),some i,.rd [x] (iq g s)⟩ F H∧gz P G l F H Q)=_;unfold sx;apply propext;cases e:nj b (rd j F)with
 |none=>
  refine⟨fun⟨h,_⟩=>?_,False.elim⟩;rcases h with h|⟨h,_⟩
  ·have h:nj b (rd j F)=some false:=h;rw[e]at h;cases h
  ·have h:nj b (rd j F)=some true:=h;rw[e]at h;cases h
 |some y=>
  cases y with
  |false=>exact⟨fun h=>h.2,fun h=>⟨.inl e,h⟩⟩
  |true=>
   show _↔pY P G (some i) l Q F H (iq g s [x F] H);unfold pY;rw[Ja (w:=fun F=>nj b (rd j F)) e];exact Iff.rfl
@[go_sem]theorem atD(d:Option Nat)(l:List c3)(r:Option V):sx P G true d l Q F H r (.bool true)=pY P G d l Q F H r:=rfl
@[go_sem]theorem atA(d:Option Nat)(l:List c3)(r:Option V):sx P G false d l Q F H r (.bool false)=pY P G d l Q F H r:=rfl
@[go_sem]theorem atC(d:Option Nat)(l:List c3)(r:Option V):sx P G true d l Q F H r (.bool false)=kf P G l Q F H:=rfl
@[go_sem]theorem atB(d:Option Nat)(l:List c3)(r:Option V):sx P G false d l Q F H r (.bool true)=kf P G l Q F H:=rfl
@[go_sem]theorem atE(b:Bool)(d:Option Nat)(l:List c3)(r:Option V):sx P G b d l Q F H r (.az [])=kf P G l Q F H:=rfl
end
def af.mz(T:af)(n:Nat):af:=⟨T.m,n⟩
theorem af.qv(T:af)(n y:Nat):(T.mz n).get y=T.get y:=rfl
structure yQ (G:Nat) (T:af):Prop where
 next:T.next=G
 top:∀y,G≤y→T.get y=.none
 low:∀y,T.get y=.none∨∃cs,T.get y=.cells cs 0∧bY cs
variable{b:List V}{u:Nat}
theorem yQ.cells(g:yQ a c)(e:c.get h=.cells b u):h<a∧u=0∧bY b:=by
 refine⟨tI fun j=>?_,?_⟩
 ·rw[g.top h j]at e;cases e
 ·rcases g.low h with d|⟨k,d,i⟩
  ·rw[d]at e;cases e
  ·rw[d]at e;cases e;exact⟨rfl,i⟩
def Has(H T:af):Prop:=∀y a,T.get y=.cells a 0→H.get y=.cells a 0
section
variable {P:Program}{G:Nat}{φ:aG}{H T:af}{w:World}
theorem Rel.An(j:Rel φ H w)(hT:yQ G T)(m:Has H T):Rel (φ.view id G) T w:=by
 have B:∀ {y:Nat},H.get y=.none→T.get y=.none:=by
  intro y e;rcases hT.low y with h|⟨d,h,_⟩
  ·exact h
  ·rw[m y d h]at e;cases e
 refine⟨?_,?_,?_,?_,?_,?_,?_,?_,?_,?_,?_⟩
 ·intro y l d g i v b a k r;obtain⟨f,rfl,s⟩:=hT.cells a;obtain⟨F,C,D⟩:=j.cell (aG.nF b).2 (m y d a) rfl r;exact⟨F,C,aJ.free (φ:=φ) (ψ:=φ.view id G) (fun _ _ e=>e) (bY.iff.1 s _ (eT r)) D⟩
 ·intro y l i e h;exact j.room (aG.nF e).2 h
 ·intro y l d g b a;obtain⟨f,rfl,s⟩:=hT.cells a;exact j.len (aG.nF b).2 (m y d a)
 ·intro y q l p b a k n;right;have u:∀ {y q:Nat}{l p:Loc},φ y=some l→φ q=some p→l.c=p.c→y≠q→T.get y=.none:=by
   intro y q l p b a k n;rcases hT.low y with h|⟨d,h,_⟩
   ·exact h
   ·rcases j.inj b a k n with⟨_,_,g,A,f,_⟩|⟨f,_⟩
    ·rw[m y d h]at f;cases f;exact absurd rfl A
    ·rw[m y d h]at f;cases f
  exact⟨u (aG.nF b).2 (aG.nF a).2 k n,u (aG.nF a).2 (aG.nF b).2 k.symm (fun e=>n e.symm)⟩
 ·intro y t;rw[hT.next]at t
  exact⟨aj aa,hT.top y t⟩
 ·intro y l e;exact j.loc (aG.nF e).2
 ·intro y d g E z b a k;exact absurd (hT.cells b).2.1 a
 ·intro g E z e;rcases hT.low g with h|⟨d,h,_⟩
  ·rw[h]at e;cases e
  ·rw[h]at e;cases e
 ·intro y l o b a;rcases hT.low y with h|⟨d,h,_⟩
  ·rw[h]at a;cases a
  ·rw[h]at a;cases a
 ·intro I x e;refine(j.fC e).keep rfl ?_;intro y l b a;exact B ((j.fC e).off _ _ (aG.nF b).2 a)
 ·intro y d g e;obtain⟨f,rfl,_⟩:=hT.cells e;rw[hT.next];omega
variable{A:FuncId}
theorem aow(hT:yQ G T){R:V→Prop}(ha:bY b)
 (O:fk P G (.fn A) b T fun v1 t=>Has t T∧∃v,bR t (T.mz t.next) v1 v∧bz v∧R v) (H:af) (F:Has H T):
 fk P G (.fn A) b H fun v t=>R v∧t=H:=by
 refine⟨O.1,fun φ w a0 q hg a5=>(O.2 (φ.view id G) w a0 (q.An hT F) ?_ (bm.free (φ:=φ) (ψ:=φ.view id G) (fun _ _ e=>e) ha a5)).mono ?_⟩
 ·intro g ap;obtain⟨bd,e⟩:=hg g ap;exact⟨bd,aG.tr ap e⟩
 ·rintro e w' ⟨v1,v',t,ψ,rfl,s,bc,ad,v,a7,Y,hR⟩;have a9:∀y,y<G→t.get y=T.get y:=by
   intro y C;rcases hT.low y with u|⟨d,u,_⟩
   ·rw[u];cases j:φ.view id G y with
    |some l=>exact(s.jx j u).1
    |none=>
     rw[s.nX (by rw[hT.next];exact C) j (fun a m k=>by rw[u]at k;cases k)]
     exact u
   ·rw[u];exact ad y d u
  have X:Cut G t (T.mz t.next):=by
   refine⟨fun y=>?_,rfl,fun y D c1 c2 g u p z I=>?_⟩
   ·rw[af.qv];by_cases C:y<G
    ·exact .inl (a9 y C).symm
    ·exact .inr ⟨jC C,hT.top y (jC C)⟩
   ·rw[af.qv];rcases hT.low D with h|⟨d,h,_⟩
    ·exact h
    ·rw[ad D d h]at z;cases z;exact absurd rfl u
  have ab:=s.rel.cut X;have L:=(s.yu (B:=G) (by rw[hT.next];exact aE _)).trans (s.rel.xy X (by have:=s.next;rw[hT.next]at this;exact this))
  have ar:=aJ.di s.rel X a7 bc;generalize ψ.di t (T.mz t.next) w'=E at ab L ar
  have Q:∀ {n:Nat},n<w.heap.size→(∀y l d,φ y=some l→l.c=n→T.get y≠ .cells d 0)→w'.heap[n]? =w.heap[n]? :=by
   intro n O ba;by_cases hb:∃m l,φ.view id G m=some l∧l.c=n
   ·obtain⟨m,l,j,rfl⟩:=hb;rcases hT.low m with h|⟨d,h,_⟩
    ·exact(s.jx j h).2
    ·exact absurd h (ba m l d (aG.nF j).2 rfl)
   ·exact s.lU O (fun m l j k=>hb ⟨m,l,j,k⟩)
  have W:∀ {y:Nat}{l:Loc},(∀d,T.get y≠ .cells d 0)→φ y=some l→∀D N d,φ D=some N→N.c=l.c→T.get D≠ .cells d 0:=by
   intro y l C e D N d e' a6 B;have a':D≠y:=fun k=>C d (k▸B)
   rcases q.inj e' e a6 a' with⟨_,_,g,u,p,_⟩|⟨p,_⟩
   ·rw[F D d B]at p;cases p;exact absurd rfl u
   ·rw[F D d B]at p;cases p
  have al:∀n x,E.im n=some x→φ.im n=some x∨w.heap.size≤n∨∃m l d,φ m=some l∧E m=some l∧l.c=n∧T.get m=.cells d 0:=by
   intro n x e;rcases L.ni n x e with h|h|⟨m,l,p,z,I⟩
   ·exact .inl h
   ·exact .inr (.inl h)
   ·rcases hT.low m with h|⟨d,h,_⟩
    ·exact absurd h I
    ·exact .inr (.inr ⟨m,l,d,(aG.nF p).2,L.le (aG.nF p).1 p,z,h⟩)
  have Z:φ.le ⟨φ.f,E.im⟩:=⟨fun _ _ e=>e,L.xK⟩;have am:∀ {x:V}{K:Value},bz x→aJ E x K→aJ ⟨φ.f,E.im⟩ x K:=fun h r=>aJ.free (φ:=E) (ψ:=⟨φ.f,E.im⟩) (fun _ _ e=>e) h r
  have bb:Rel ⟨φ.f,E.im⟩ H w':=by
   refine⟨?_,fun j k=>s.same.free (q.room j k),q.len,q.inj,q.top,fun j=>eG (q.loc j) s.size,q.mem,q.mF,?_,?_,q.mG⟩
   ·intro y l bs g i x j k a2 S;have j:φ y=some l:=j;by_cases B:∃d,T.get y=.cells d 0
    ·obtain⟨d,B⟩:=B;rw[F y d B]at k;cases k;obtain⟨C,_,Y⟩:=hT.cells B;obtain⟨K,J,M⟩:=ab.cell (L.le C (aG.tr C j)) B rfl S;exact⟨K,J,am (bY.iff.1 Y _ (eT S)) M⟩
    ·obtain⟨K,J,M⟩:=q.cell j k a2 S;refine⟨K,?_,M.mono Z⟩;unfold World.cell? at J⊢;rw[Q (q.loc j) (W (fun d h=>B ⟨d,h⟩) j)];exact J
   ·intro y l o j k;obtain⟨J,M⟩:=q.ck j k;refine⟨J,M.mono Z (Q (q.loc j) (W (fun d h=>?_) j))⟩;rw[F y d h]at k;cases k
   ·intro n x e;have hi:=ab.fC e;refine⟨hi.obj,hi.kind,fun y l j k=>?_⟩;rcases al n x e with h|h|⟨m,N,d,p,z,I,U⟩
    ·exact(q.fC h).off y l j k
    ·have:=q.loc j;omega
    ·have:=hi.off m N z I;rw[af.qv,U]at this;cases this
  refine⟨v,v',H,⟨φ.f,E.im⟩,rfl,⟨bb,Z,fun p z=>absurd (p.symm.trans z) aB,fun _ _ _=>rfl,aE _,fun p z=>Q p (fun y l d j k=>absurd k (z y l j)),s.size,s.same,fun{y l} j k=>⟨k,Q (q.loc j) (W (fun d h=>?_) j)⟩,fun n x e=>?_⟩,am Y ar,hR,rfl⟩
  ·rw[F y d h]at k;cases k
  ·rcases al n x e with h|h|⟨m,l,d,p,z,I,U⟩
   ·exact .inl h
   ·exact .inr (.inl h)
   ·exact .inr (.inr ⟨m,l,p,I,by rw[F m d U];simp⟩)
end
mutual
inductive og (b:Nat):V→V→Prop
 |any (v:V):og b v .any
 |int (k:IntKind) (n:Int):og b (.int k n) (.int k n)
 |bool (x:Bool):og b (.bool x) (.bool x)
 |str (s:List UInt8):og b (.str s) (.str s)
 |an:og b .an .an
 |slice (o n:Nat) (c:Cap):og b (.slice b o n c) (.slice b o n c)
 |eW:og b (.row 0 []) (.row 0 [])
 |az {xs ys:List V} (h:wO b xs ys):og b (.az xs) (.az ys)
 |agg {xs ys:List V} (h:wO b xs ys):og b (.agg xs) (.agg ys)
inductive wO (b:Nat):List V→List V→Prop
 |nil:wO b [] []
 |cons {x y:V}{xs ys:List V} (h:og b x y) (h':wO b xs ys):wO b (x::xs) (y::ys)
end
mutual
theorem aJ.vP{φ ψ:aG}{b:Nat}(hb:∀l,φ b=some l→ψ b=some l):∀ {v v2:V}{v':Value},og b v v2→aJ φ v v'→aJ ψ v2 v'
 |_,_,v',.any _,_=>.any v'
 |_,_,_,.int _ _,.int k n=>.int k n
 |_,_,_,.bool _,.bool x=>.bool x
 |_,_,_,.str _,.str s=>.str s
 |_,_,_,.an,.an=>.an
 |_,_,_,.slice _ _ _,.slice h h1 h2=>.slice (hb _ h) h1 h2
 |_,_,_,.eW,.eW a c h=>.eW a c h
 |_,_,_,.eW,.row _ _ _ _=>.eW _ _ (fun h=>by cases h)
 |_,_,_,.az h,.az g=>.az (bm.vP hb h g)
 |_,_,_,.agg h,.agg g=>.agg (bm.vP hb h g)
theorem bm.vP{φ ψ:aG}{b:Nat}(hb:∀l,φ b=some l→ψ b=some l):∀ {v v2:List V}{v':List Value},wO b v v2→bm φ v v'→bm ψ v2 v'
 |_,_,_,.nil,.nil=>.nil
 |_,_,_,.cons h h',.cons g g'=>.cons (aJ.vP hb h g) (bm.vP hb h' g')
end
section
variable {P:Program}{G:Nat}
theorem A5(H:af):Cut 0 H (af.zero H.next):=⟨fun _=>.inr ⟨bQ _,af.e7 _ _⟩,rfl,fun _ _ _ _ _ _ _ _ _=>af.e7 _ _⟩
variable{A:FuncId}
theorem Ku{am:List V}{R:V→Nat→List V→Prop}(ha:cD c (af.zero c.next) b am)
 (hc:fk P G (.fn A) am (af.zero c.next) fun v1 D=>∃v j u,og j v1 v∧c.next≤j∧j<D.next∧D.get j=.cells u 0∧(∀x∈u,∃k n,x=.int k n)∧R v j u):
 fk P G (.fn A) b c fun v D=>∃j u,R v j u∧c.next≤j∧j<D.next∧∀y,D.get y=if y=j then .cells u 0 else c.get y:=by
 refine⟨hc.1,fun C w a4 r hg a9=>(hc.2 (C.di c (af.zero c.next) w) w a4 (r.cut (A5 c)) hg (bm.di r (A5 c) ha a9)).mono ?_⟩
 rintro e w' ⟨v1,v',D,ψ,rfl,q,bs,v,j,u,bi,W,a',Z,bo,hR⟩;have bd:=vq (H2:=af.zero c.next) r
 have ac:c.next≤D.next:=q.next
 have S:C j=none:=(r.top W).1;have ad:∀ {y:Nat}{l:Loc},C y=some l→w'.heap[l.c]? =w.heap[l.c]? :=fun{y l} d=>(q.jx (show(C.di c (af.zero c.next) w) y=some l from d) (af.e7 _ _)).2
 have Q:∀ {l:Loc},ψ j=some l→w.heap.size≤l.c:=by
  intro l d;rcases(q.fresh (show(C.di c (af.zero c.next) w) j=none from S) d).2 with h|⟨b0,l0,p,z⟩
  ·exact h
  ·have ar:C b0=some l0:=p;have be:b0≠j:=fun e=>by rw[e,S]at ar;cases ar
   rcases q.rel.inj (q.le _ _ p) d z be with⟨_,_,g,_,B,_⟩|⟨_,B⟩
   ·rw[(q.jx p (af.e7 _ _)).1]at B;cases B
   ·rw[Z]at B;cases B
 let M:aG:=⟨fun y=>if y=j then ψ j else C y,C.im⟩;let K:af:=⟨(c.set j (.cells u 0)).m,D.next⟩
 have X:∀y,K.get y=if y=j then .cells u 0 else c.get y:=by
  intro y;show(c.set j (.cells u 0)).get y=_;rw[af.aK];by_cases f:y=j
  ·rw[ak f.symm,ak f]
  ·rw[aj (fun e=>f e.symm),aj f]
 have s:∀ {y:Nat},y≠j→K.get y=c.get y:=fun{y} h=>by rw[X,aj h]
 have F:K.get j=.cells u 0:=by rw[X,ak rfl]
 have E:M j=ψ j:=ak rfl;have t:∀ {y:Nat},y≠j→M y=C y:=fun{y} h=>aj h
 have ab:C.le M:=⟨fun y l e=>by
  have f:y≠j:=fun h=>by rw[h,S]at e;cases e
  rw[t f];exact e,fun _ _ e=>e⟩
 have bj:Rel M K w':=by
  refine⟨?_,?_,?_,?_,?_,?_,?_,?_,?_,?_,?_⟩
  ·intro y l T g i x d p z I;by_cases f:y=j
   ·subst f;rw[F]at p;cases p;rw[E]at d;obtain⟨x',J,B⟩:=q.rel.cell d Z rfl I;obtain⟨k,n,rfl⟩:=bo x (eT I);refine⟨x',J,?_⟩;cases B;exact .int _ _
   ·rw[s f]at p;rw[t f]at d;have hl:c.fR y g=true:=by
     rcases gq.1 z with e|⟨a,H,U,a5⟩
     ·exact gq.2 (.inl e)
     ·refine gq.2 (.inr ⟨a,H,?_,a5⟩);have bb:g≠j:=fun h=>by rw[h,F]at U;cases U
      rw[←s bb];exact U
    obtain⟨x',J,B⟩:=r.cell d p hl I;refine⟨x',?_,B.mono ab⟩;unfold World.cell? at J⊢;rw[ad d];exact J
  ·intro y l i d p;by_cases f:y=j
   ·subst f;rw[E]at d;exact q.rel.room d p
   ·rw[t f]at d;exact q.same.free (r.room d p)
  ·intro y l T g d p;by_cases f:y=j
   ·subst f;rw[F]at p;cases p;rw[E]at d;exact q.rel.len d Z
   ·rw[s f]at p;rw[t f]at d;exact r.len d p
  ·intro y y' l l' d p z I;by_cases f:y=j
   ·subst f;have L:y'≠y:=fun e=>I e.symm
    rw[E]at d;rw[t L]at p;have N:=Q d;have O:=r.loc p;omega
   ·by_cases L:y'=j
    ·subst L;rw[E]at p;rw[t f]at d;have N:=Q p;have O:=r.loc d;omega
    ·rw[s f,s L];rw[t f]at d;rw[t L]at p;exact r.inj d p z I
  ·intro y f;have bv:D.next≤y:=f
   have a0:y≠j:=aa;rw[t a0,s a0];exact r.top (cy ac bv)
  ·intro y l d;by_cases f:y=j
   ·subst f;rw[E]at d;exact q.rel.loc d
   ·rw[t f]at d;exact eG (r.loc d) q.size
  ·intro y T g b2 a6 d p z;have f:y≠j:=fun h=>by
    rw[h,F]at d;cases d;exact p rfl
   have Y:g≠j:=fun h=>by rw[h,F]at z;cases z
   rw[s f]at d;rw[s Y]at z;exact r.mem d p z
  ·intro g b2 a6 d;have Y:g≠j:=fun h=>by rw[h,F]at d;cases d
   rw[s Y]at d;exact r.mF d
  ·intro y l o d p;have f:y≠j:=fun h=>by rw[h,F]at p;cases p
   rw[s f]at p;rw[t f]at d;obtain⟨J,B⟩:=r.ck d p;exact⟨J,B.mono ab (ad d)⟩
  ·intro H x d;have hi:=r.fC (show C.im H=some x from d);have bc:=q.rel.fC (q.le.im H x (bd.im H x d));refine hi.keep (bc.obj.trans hi.obj.symm) fun y l p z=>?_
   by_cases f:y=j
   ·subst f;rw[E]at p;have N:=Q p;have O:=hi.lt;omega
   ·rw[t f]at p;rw[s f];exact hi.off y l p z
  ·intro y T g d;show g<D.next
   by_cases f:y=j
   ·subst f;rw[F]at d;cases d;omega
   ·rw[s f]at d;exact eG (r.mG d) ac
 refine⟨v,v',K,M,rfl,⟨bj,ab,?_,?_,ac,fun N O=>q.lU N O,q.size,q.same,?_,fun H x e=>.inl e⟩,aJ.vP (fun l e=>by rw[E];exact e) bi bs,j,u,hR,W,a',X⟩
 ·intro y l d p;by_cases f:y=j
  ·subst f;rw[E]at p;exact⟨W,.inl (Q p)⟩
  ·rw[t f,d]at p;cases p
 ·intro y f _ _;exact s aa
 ·intro y l d p;have f:y≠j:=fun h=>by rw[h,S]at d;cases d
  exact⟨by rw[s f];exact p,ad d⟩
theorem w7{z:List V}{R:V→Prop}(I:cD c (af.zero c.next) b z)
 (B:fk P G (.fn A) z (af.zero c.next) fun C _=>∃v,(∀n,og n C v)∧R v):
 fk P G (.fn A) b c fun v k=>R v∧k=c:=by
 refine⟨B.1,fun j w E d K J=>(B.2 (j.di c (af.zero c.next) w) w E (d.cut (A5 c)) K (bm.di d (A5 c) I J)).mono ?_⟩
 rintro e D ⟨C,S,k,W,rfl,h,Q,v,N,H⟩;have M:=vq (H2:=af.zero c.next) d
 have t:∀ {y:Nat}{l:Loc},j y=some l→D.heap[l.c]? =w.heap[l.c]? :=fun{y l} a=>(h.jx (show(j.di c (af.zero c.next) w) y=some l from a) (af.e7 _ _)).2
 have O:Rel j c D:=by
  refine⟨?_,fun a f=>h.same.free (d.room a f),d.len,d.inj,d.top,fun a=>eG (d.loc a) h.size,d.mem,d.mF,?_,?_,d.mG⟩
  ·intro n l U g i x a f q F;obtain⟨T,m,u⟩:=d.cell a f q F;refine⟨T,?_,u⟩;unfold World.cell? at m⊢;rw[t a];exact m
  ·intro n l o a f;obtain⟨m,u⟩:=d.ck a f;exact⟨m,u.mono (aG.le_refl j) (t a)⟩
  ·intro p x a;have hi:=d.fC a;have L:=h.rel.fC (h.le.im p x (M.im p x a));exact hi.keep (L.obj.trans hi.obj.symm) fun y l f q=>hi.off y l f q
 refine⟨v,S,c,j,rfl,⟨O,aG.le_refl j,fun r s=>absurd (r.symm.trans s) aB,fun _ _ _=>rfl,aE _,fun r s=>h.lU r s,h.size,h.same,fun a f=>⟨f,t a⟩,fun p x e=>.inl e⟩,aJ.vP (b:=k.next) (fun l e=>by rw[(h.rel.top (aE _)).1]at e;cases e) (N k.next) Q,H,rfl⟩
end
def yV(ds:List TypeDesc)(a b:V):Option Bool:=match a with
 |.agg x=>(match b with|.agg y=>m9 ds x y|_=>aM)
 |_=>aM
def ei(ds:List TypeDesc)(z:V)(a:Bool)(x y:Fr→V):bP:=.rd [x,y] (uh (yV ds) z a)
def ep(ds:List TypeDesc)(x y z:Fr→V):bP:=.gB [x,y,z] (yA (yV ds))
def eo:bP:=.gB [] Gz
def ey(x:Fr→V):bP:=.gB [x] z4
def eu(x:Fr→V):bP:=.mN x
def ef(x:Fr→V):bP:=.rd [x] sF
section
variable {P:Program}{G:Nat}{d:Option Nat}{F:Fr}{H:af}{K:Fr→af→Prop}
@[go_sem↓]theorem asL(ds:List TypeDesc)(z:V)(a:Bool)(x y:Fr→V):dA P G (ei ds z a x y) d F H K=q_ d K F H (uh (yV ds) z a [x F,y F] H):=rfl
@[go_sem↓]theorem asU(ds:List TypeDesc)(x y z:Fr→V):dA P G (ep ds x y z) d F H K=gj d K F (yA (yV ds) [x F,y F,z F] H):=rfl
@[go_sem↓]theorem asR:dA P G eo d F H K=K (put F d (.map H.next)) (H.push (.ck (.map []))):=rfl
@[go_sem↓]theorem as3(x:Fr→V):dA P G (ey x) d F H K=gj d K F (z4 [x F] H):=rfl
@[go_sem↓]theorem as0(x:Fr→V):dA P G (eu x) d F H K=AH (x F) H fun v a=>K (put F d v) a:=rfl
@[go_sem↓]theorem asF(x:Fr→V):dA P G (ef x) d F H K=q_ d K F H (sF [x F] H):=rfl
end
theorem Ib{R c:X→Fr→af→Prop}{b:Fr→af→Prop}(d:∀F H,e F H→b F H)(h:∀x F H,R x F H→c x F H):∀x F H,fq e R x F H→fq b c x F H:=by
 intro x F H a;cases x with
 |norm=>exact d _ _ a
 |ret=>exact h _ _ _ a
 |exit i=>exact h _ _ _ a
theorem wp_mono{P:Program}:∀(c:aP) {F:Fr}{H:af}{Q g:X→Fr→af→Prop},(∀x F H,Q x F H→g x F H)→wp P h c F H Q→wp P h c F H g
 |.skip,_,_,_,_,d,f=>d _ _ _ f
 |.ret,_,_,_,_,d,f=>d _ _ _ f
 |.exit _,_,_,_,_,d,f=>d _ _ _ f
 |.bN _,_,_,_,_,d,f=>gz.mono (fun F H=>d .norm F H) f
 |.seq a b,_,_,_,_,d,f=>wp_mono a (Ib (fun _ _=>wp_mono b d) d) f
 |.cond x a b,F,H,Q,g,d,f=>by
  have f:r4 (x F) (wp P h a F H Q) (wp P h b F H Q):=f;show r4 (x F) (wp P h a F H g) (wp P h b F H g);unfold r4 at f⊢;split
  ·rename_i e;rw[e]at f;exact wp_mono a d f
  ·rename_i e;rw[e]at f;exact wp_mono b d f
  ·split at f
   ·contradiction
   ·contradiction
   ·exact f
 |.block id b,_,_,Q,g,d,f=>wp_mono b (fun x F H j=>by
  cases x with
  |norm=>exact d _ _ _ j
  |ret=>exact d _ _ _ j
  |exit i=>
   have j:if i=id then Q .norm F H else Q (.exit i) F H:=j
   show if i=id then g .norm F H else g (.exit i) F H
   by_cases e:i=id
   ·rw[ak e]at j⊢;exact d _ _ _ j
   ·rw[aj e]at j⊢;exact d _ _ _ j) f
 |.loop b,_,_,_,_,d,⟨I,k,o,hi⟩=>⟨I,k,o,fun m F H s=>wp_mono b (Ib (fun _ _ d=>d) d) (hi m F H s)⟩
 |.cut _ _ b,_,_,_,_,d,⟨l,n,p,q,r⟩=>⟨l,n,p,q,wp_mono b d r⟩
def qa(P:Program)(G:Nat)(b:aP)(R:X→Fr→af→Prop):Nat→Fr→af→Prop
 |0,_,_=>False
 |n+1,F,H=>jr P G b (fq (qa P G b R n) R) F H
variable{M:aP}
theorem qX{P:Program}{R:X→Fr→af→Prop}(n:Nat)(h:qa P a M R n m c):jr P a (.loop M) R m c:=by
 refine bH (qa P a M R) n h ?_;intro k e g b;cases k with
 |zero=>exact b.elim
 |succ k=>exact wp_mono M (Ib (fun f i d=>⟨k,mm k,d⟩) (fun _ _ _ h=>h)) b
theorem kz{P:Program}{R:X→Fr→af→Prop}(n:Nat)(F:Fr)(H:af):qa P a M R (n+1) F H=jr P a M (fq (qa P a M R n) R) F H:=rfl
theorem N_{bytes:Nat}(h:a≤1073741824∧bytes≤1024):a≤1099511627776∧a*bytes≤1099511627776:=
 ⟨aa,cy (j_ h.1 h.2) ag⟩
theorem ap8{s b n c:Nat}{k:IntKind}{h:Int}(a:0≤h∧h≤c):slice3 (j7 s) false true false [.slice b 0 n (.least c),.int k h]=some (.val (.slice b 0 h.toNat (.least c))):=by
 show Ag b 0 n c none (some (.int k h))=_;unfold Ag;rw[sA (l:=0) (h:=h.toNat) rfl (mw k a.1) (bQ _) aa];rfl
theorem Tv{bytes n:Nat}{zs:List V}{k:IntKind}(h:1≤n∧n≤1073741824∧bytes≤1024):yY bytes zs [.an,.int k (n:Int)]=some (.new (rep zs n) (.least n)):=by
 show ao (gm (.int k (n:Int))) (fun n=>aQ (and (bM 1 n) (je n bytes)) (some (aY.new (rep zs n) (.least n))))=_;rw[mw k aa,bJ];show aQ (and (bM 1 n) (je n bytes)) _=_;rw[show bM 1 n=true from Nat.ble_eq_true_of_le h.1,qq (N_ h.2)];rfl
variable{L:Nat}
theorem NC{bytes d:Nat}{xs ys rest:List V}(n:c.get h=.cells (xs++(ys++rest)) 0)(x:xs.length=u*a)(y:ys.length=L*a)(k:kX s=some L)(l:dS c a L s=some b)(r:b.length=L*a)(q:u+L≤d)(o:u+L≤1073741824∧bytes≤1024)(t:cG b=true)
 (p:e (put m i (.slice h 0 (u+L) (.least d))) (c.set h (.cells (xs++(b++rest)) 0))) (z:0<L):gj i e m (fH a bytes [.slice h 0 u (.least d),s] c):=by
 have w:c.e5 h (0+u*a) b=some (c.set h (.cells (xs++(b++rest)) 0)):=by
  unfold af.e5;rw[n];show aQ (cG b) (ao (cC b (xs++(ys++rest)) (0+u*a)) fun f=>some (c.set h (.cells f 0)))=_;rw[t];have v:cC b (xs++(ys++rest)) (0+u*a)=some (xs++(b++rest)):=by
   rw[lC,ak (by simp only[aS];omega)];congr 1;rw[dK,←x,p_];have g:xs.length+b.length=(xs++ys).length:=by rw[aS,r,y]
   rw[g,←eJ xs ys rest,uS,eJ]
  rw[v];rfl
 have j:fH a bytes [.slice h 0 u (.least d),s] c=some (.slice h 0 (u+L) (.least d),c.set h (.cells (xs++(b++rest)) 0)):=by
  show ao (kX s) (fun L=>ao (dS c a L s) fun b=>jX a bytes (.slice h 0 u (.least d)) L b c)=_;rw[k];show ao (dS c a L s) _=_;rw[l];show Bool.casesOn (motive:=fun _=>Option (V×af)) (fh L) (aQ (je (u+L) bytes) (aQ (bM (u+L) d) (ao (c.e5 h (0+u*a) b) fun c=>some (V.slice h 0 (u+L) (.least d),c)))) (some (.slice h 0 u (.least d),c))=_;rw[rH aa,qq (N_ o),show bM (u+L) d=true from Nat.ble_eq_true_of_le q,w];rfl
 rw[j];exact p
mutual
inductive wP:V→V→Prop
 |same (v:V):wP v v
 |fK:wP .an (.row 0 [])
 |agg {xs ys:List V} (h:uZ xs ys):wP (.agg xs) (.agg ys)
 |az {xs ys:List V} (h:uZ xs ys):wP (.az xs) (.az ys)
inductive uZ:List V→List V→Prop
 |nil:uZ [] []
 |cons {x y:V}{xs ys:List V} (h:wP x y) (h':uZ xs ys):uZ (x::xs) (y::ys)
end
mutual
theorem aJ.nz{φ:aG}:∀ {v v2:V}{v':Value},wP v v2→aJ φ v v'→aJ φ v2 v'
 |_,_,_,.same _,r=>r
 |_,_,_,.fK,.an=>.eW none 0 (fun _=>rfl)
 |_,_,_,.agg h,.agg g=>.agg (bm.nz h g)
 |_,_,_,.az h,.az g=>.az (bm.nz h g)
theorem bm.nz{φ:aG}:∀ {v v2:List V}{v':List Value},uZ v v2→bm φ v v'→bm φ v2 v'
 |_,_,_,.nil,.nil=>.nil
 |_,_,_,.cons h h',.cons g g'=>.cons (aJ.nz h g) (bm.nz h' g')
end
variable{A:FuncId}{I:V→af→Prop}
theorem T8{P:Program}{d:List V}(g:uZ b d)(e:fk P a (.fn A) d c I):fk P a (.fn A) b c I:=
 ⟨e.1,fun k w f j i h=>e.2 k w f j i (bm.nz g h)⟩
inductive tN (H:af) (args:List V):Nat→Prop
 |arg {b o n:Nat}{c:Cap} (h:V.slice b o n c∈args):tN H args b
 |cell {b b' o n:Nat}{c:Cap}{cs:List V} (h:tN H args b') (hb:H.get b'=.cells cs 0) (hm:V.slice b o n c∈cs):tN H args b
variable{o:aG}{r:World}{D:List Value}
theorem tN.named{P:Program}(j:Rel o c r)(f:bm o b D)(h:tN c b a):∃l,o a=some l:=by
 induction h with
 |arg d=>
  obtain⟨i,hi⟩:=List.getElem?_of_mem d;obtain⟨x,_,e⟩:=f.get i _ hi;cases e with
  |slice h _ _=>exact⟨_,h⟩
 |cell _ g d k=>
  obtain⟨l,hl⟩:=k;obtain⟨i,hi⟩:=List.getElem?_of_mem d;obtain⟨x,_,e⟩:=j.cell hl g (gq.2 (.inl rfl)) hi;cases e with
  |slice h _ _=>exact⟨_,h⟩
theorem T7{P:Program}{o:List V}{H:af}(bs:List Nat)(c:af)(t:∀p∈bs,(∃q,H.get p=.cells q 0)∧tN H b p)(d:∀y,c.get y=if y∈bs then .none else H.get y)(z:c.next=H.next)(F:cD H c b o)
 (u:fk P a (.fn A) o c I):fk P a (.fn A) b H I:=by
 refine⟨u.1,fun n w C h K s=>?_⟩;have m:Cut 0 H c:=by
  refine⟨fun y=>?_,z,fun y U O Q g i f R j=>?_⟩
  ·rw[d];split
   ·exact .inr ⟨bQ _,rfl⟩
   ·exact .inl rfl
  ·rw[d]at j⊢;split at j
   ·rename_i e;obtain⟨⟨q,G⟩,_⟩:=t y e;rw[G]at f;cases f;exact absurd rfl i
   ·rw[f]at j;cases j
 have x:=h.xy m (bQ _);have J:Ext n H w (n.di H c w) c w:=by
  refine⟨x.rel,vq h,fun f d=>absurd (f.symm.trans d) aB,fun{y} _ i _=>?_,by rw[z];exact aE _,fun _ _=>rfl,aE _,hN.refl w,fun{y S} r k=>⟨?_,rfl⟩,x.ni⟩
  ·rw[d,aj];intro L;obtain⟨l,hl⟩:=(t y L).2.named (P:=P) h s;rw[hl]at i;cases i
  ·rw[d];split
   ·rfl
   ·exact k
 refine(u.2 (n.di H c w) w C (h.cut m) K (bm.di h m F s)).mono ?_;rintro e T ⟨v,M,B,N,r,k,D,E⟩;exact⟨v,M,B,N,r,J.trans k,D,E⟩
def u8(n:Nat):UInt8:=gJ n
theorem Im(n:Nat):u8 (no_index (OfNat.ofNat n))=OfNat.ofNat n:=rfl
def Sp(v:V):V:=match v with
 |.str l=>.str (lmap (fun c=>u8 c.toNat) l)
 |v=>v
def eD(x:Operand):Fr→V:=match x with
 |.tmp t=>rd t
 |.const v=>kc (Option.casesOn (motive:=fun _=>V) (mU 20 v) .undef Sp)
 |.global g=>kc (.ptr g 0)
 |.func f=>kc (.func f [] [])
variable{f:Type}
def lZ(d:f)(x:Option f):f:=Option.casesOn (motive:=fun _=>f) x d (fun a=>a)
def yG(T:cg)(t:TypeId):List V:=lmap Sp (lZ [] (zeroCells T t))
def pN(T:cg)(t:TypeId):Nat:=lZ 0 (iQ T t)
def zS(N:Nat→Option (List V→Option aY))(T:cg)(o:Op):bP:=match o with
 |.move x=>mv (eD x)
 |.assign x=>bS (eD x)
 |.pick c a b=>pick (eD c) (eD a) (eD b)
 |.alloc t=>alloc (yG T t)
 |.box _ x=>box (eD x)
 |.build t parts=>(match T.bq t with
   |some (.struct j)=>dI (lmap (fun p=>lZ (0,0) (cK (lZ [] (BK T j.toList)) p.1)) parts.toList) (yG T t) (lmap (fun p=>eD p.2) parts.toList)
   |some (.array _ e)=>dI (lmap (fun p=>(p.1*pN T e,pN T e)) parts.toList) (yG T t) (lmap (fun p=>eD p.2) parts.toList)
   |_=>.bad)
 |.buildSlice t n parts=>(match T.bq t with
   |some (.slice e)=>c8 n (lmap (fun p=>(p.1*pN T e,pN T e)) parts.toList) (yG T e) (lmap (fun p=>eD p.2) parts.toList)
   |_=>.bad)
 |.load t a=>bp (lZ false (T.isAgg t)) (pN T t) (eD a)
 |.store t a v=>st (pN T t) (eD a) (eD v)
 |.nilCheck x=>er (eD x)
 |.binOp h t x y _=>(match T.bq t with
   |some (.int _)=>bi h (eD x) (eD y)
   |some .string=>bs h (eD x) (eD y)
   |some d=>be (match h with|.neq=>true|_=>false) d (eD x) (eD y)
   |_=>.bad)
 |.unOp h _ x=>(match h with|.neg=>neg (eD x)|.not=>not (eD x)|_=>.bad)
 |.convert s d x=>(match T.bq s,T.bq d with
   |some (.int _),some (.int k)=>cJ k (eD x)
   |some .string,some (.slice _)=>dZ (eD x)
   |some (.slice _),some .string=>d_ (eD x)
   |_,_=>.bad)
 |.makeFunc (.func f) a b=>en f (cr a.toList) (lmap eD (cW a.toList b.toList))
 |.makeSlice t l c=>(match T.bq t with
   |some (.slice e)=>ms (lZ 0 (ao (T.info e) fun i=>some i.bytes)) (yG T e) (eD l) (eD c)
   |_=>.bad)
 |.slice t x lo hi m=>(match T.bq t with
   |some .string=>dN lo.isSome hi.isSome m.isSome (lmap eD (x::cW (j4 lo) (cW (j4 hi) (j4 m))))
   |some (.slice e)=>eB (pN T e) lo.isSome hi.isSome m.isSome (lmap eD (x::cW (j4 lo) (cW (j4 hi) (j4 m))))
   |some (.array n e)=>eA n (pN T e) lo.isSome hi.isSome m.isSome (lmap eD (x::cW (j4 lo) (cW (j4 hi) (j4 m))))
   |_=>.bad)
 |.fieldAddr s x f=>(match T.bq s with
   |some (.struct j)=>fa (lZ 0 (ao (cK j.toList f) fun f=>some f.offset)) (eD x)
   |_=>.bad)
 |.indexAddr t x i=>(match T.bq t with
   |some (.slice e)=>cz none (pN T e) (eD x) (eD i)
   |some (.array n e)=>cz (some n) (pN T e) (eD x) (eD i)
   |_=>.bad)
 |.index _ x i=>cN (eD x) (eD i)
 |.extract t i=>ext i (eD t)
 |.makeMap _ _=>eo
 |.lookup t x i u=>(match T.bq t with
   |some (.map q e)=>ei (lZ [] (wU T q)) (lZ .undef (ao (T.info e) fun i=>ao i.zero fun z=>mU 20 z)) u (eD x) (eD i)
   |_=>.bad)
 |.mapUpdate t m k v=>(match T.bq t with
   |some (.map q _)=>ep (lZ [] (wU T q)) (eD m) (eD k) (eD v)
   |_=>.bad)
 |.range _ x=>ey (eD x)
 |.next x _=>eu (eD x)
 |.entry x=>ef (eD x)
 |.call c=>(match c.callee with
  |.value (.func f)=>(match N f with
   |some g=>ew g (lmap eD c.args.toList)
   |_=>cm f (lmap eD c.args.toList))
  |.value x=>ec (lmap eD (x::c.args.toList))
  |.builtin b=>(match b,lmap (fun t=>T.bq t) c.argTypes.toList,lmap eD c.args.toList with
   |.len,some .string::_,[x]=>ek x
   |.len,some (.map _ _)::_,[x]=>ej x
   |.len,_,[x]=>dx x
   |.cap,_,[x]=>dY x
   |.max,_,r=>mx r
   |.min,_,r=>mn r
   |.append,some (.slice e)::some (.int _)::_,[x,y]=>dX (lZ 0 (ao (T.info e) fun i=>some i.bytes)) (yG T e) x y
   |.append,some (.slice e)::_,[x,y]=>ap (lZ 0 (ao (T.info e) fun i=>some i.size)) (lZ 0 (ao (T.info e) fun i=>some i.bytes)) x y
   |.copy,some (.slice e)::_,[x,y]=>ee (pN T e) x y
   |_,_,_=>.bad)
  |_=>.bad)
 |_=>.bad
def Pd(N:Nat→Option (List V→Option aY))(T:cg)(o:Op):Nat:=match o with
 |.assign _=>2|.store _ _ _=>2|.makeMap _ _=>2|.mapUpdate _ _ _ _=>2|.range _ _=>2|.next _ _=>2
 |.load _ _=>1|.lookup _ _ _ _=>1|.entry _=>1
 |.convert s _ _=>(match T.bq s with|some (.slice _)=>1|_=>0)
 |.call c=>(match c.callee with
  |.value (.func f)=>(match N f with|some _=>0|_=>2)
  |.value _=>2
  |.builtin b=>(match b,lmap (fun t=>T.bq t) c.argTypes.toList with
   |.len,some (.map _ _)::_=>1
   |.append,_::some (.int _)::_=>0
   |.append,_=>2
   |.copy,_=>2
   |_,_=>0)
  |_=>2)
 |_=>0
def aiV(N:Nat→Option (List V→Option aY))(T:cg)(b:List Oper):List Nat→Nat→List Info:=
 List.rec (motive:=fun _=>List Nat→Nat→List Info) (fun _ _=>[])
  (fun o _ a ms i=>⟨i,o,rK 0 ms 0,⟨fun _=>none,none,.bad⟩,bn (Pd N T o.op) 2⟩::a (eC ms 1) (Nat.succ i)) b
def aqw(N:Nat→Option (List V→Option aY))(T:cg)(l a:List Info)(r:List Info):Nat→List (Bool×Info):=
 List.rec (motive:=fun _=>Nat→List (Bool×Info)) (fun j=>lmap (fun i=>(false,i)) (mA l a j))
  (fun e _ b j=>cW (lmap (fun i=>(false,i)) (mA l a j)) ((false,e)::cW
    (lmap (fun i=>(true,i)) (kH (fun i=>and (!i.gE) (and (bn (Pd N T i.o.op) 1) (and (bM (nc a i.mask) j) (!(iB e.mask i.ix))))) l)) (b (Nat.succ j)))) r
def OQ(N:Nat→Option (List V→Option aY))(T:cg)(a:List Oper)(r:Bool)(o:Oper):c3:=match r,o.guard,o.dst with
 |false,none,some d=>ex d (zS N T o.op)
 |false,none,none=>bE (zS N T o.op)
 |false,some (j,b),some d=>bF (lZ 0 (tS a j)) b d (zS N T o.op)
 |true,none,some d=>re d (zS N T o.op)
 |true,some (j,b),some d=>rg (lZ 0 (tS a j)) b d (zS N T o.op)
 |_,_,_=>bE .bad
def an'(N:Nat→Option (List V→Option aY))(T:cg)(a:List Oper)(c:Bool):List c3:=
 Bool.casesOn (motive:=fun _=>List c3) c (lmap (OQ N T a false) a)
  (let l:=aiV N T a (masks a []) 0
   let b:=kH (fun i=>i.gE) l
   lmap (fun p=>OQ N T a p.1 p.2.o) (aqw N T l b b 0))
def am9(c:aP):Bool:=match c with|.skip=>false|.ret=>false|_=>true
def Q7(a:Option (Nat→aP))(l:List aP)(b:aP):aP:=match a with|none=>b|some g=>g (cr l)
def Uj(N:Nat→Option (List V→Option aY))(T:cg)(d:Option (Nat→aP))(c:Code):Bool→List aP→aP×List aP:=
 Code.rec (motive:=fun _=>Bool→List aP→aP×List aP) (fun _ l=>(.skip,l)) (fun _ f e _ l=>(.bN (an' N T f.toList e),l))
  (fun _ _ a b s l=>let x:=a false l;let y:=b s x.2;Bool.casesOn (motive:=fun _=>aP×List aP) (and s (am9 y.1)) (.seq x.1 y.1,y.2) (.seq x.1 (Q7 d y.2 y.1),cW y.2 [y.1]))
  (fun x _ _ a b _ l=>let y:=a false l;let z:=b false y.2;(.cond (eD x) y.1 z.1,z.2)) (fun id _ b s l=>let x:=b s l;(.block id x.1,x.2))
  (fun _ b _ l=>let x:=b true l;(.loop (Q7 d x.2 x.1),cW x.2 [x.1])) (fun _ _ _ _ _ _ _ l=>(.skip,l)) (fun id _ l=>(.exit id,l)) (fun _ b s l=>b s l) (fun _ _ l=>(.skip,l)) (fun _ _ l=>(.skip,l)) (fun _ l=>(.ret,l)) (fun _ _ l=>(.skip,l)) c
end Go.au
namespace Go.Proofs.YtddhncjmaahodaaGreatDoor
section
open Go.au
def ash(f:Nat):Option (List V→Option aY):=Bool.casesOn (motive:=fun _=>Option (List V→Option aY)) (bn f 312) (Bool.casesOn (motive:=fun _=>Option (List V→Option aY)) (bn f 357) none (some dR)) (some dP)
def yZ(a:Option (Nat→aP))(f:Option Code):aP×List aP:=Uj ash qh a (lZ .ret f) true []
def mE(n:Nat):Option Code:=ao (nJ.get none n) fun f=>f.body
def wj(n:Nat):aP:=(yZ none (mE n)).1
def pc(n i:Nat):aP:=rK .skip (yZ none (mE n)).2 i
def uw(f:Func):List gy:=lmap (fun r=>match r with|.tmp t=>gy.tmp t|.cell a t=>.cell a (lZ false (qh.isAgg t)) (pN qh t)) f.results.toList
attribute [irreducible] wj pc
attribute [local irreducible] rd kc ex bE bF re rg mv bS pick alloc box bi bs be bp st fa cz cN dI c8 dN eB eA ms dx ek ej dY mx mn dX ap ee cJ dZ d_ cm ec ext er neg Go.au.not en ei ep eo ey eu ef ew dR dP u8
variable{M:aP}
theorem aU(n:Nat)(f:Func){a:aP}(_:(yZ (some (pc n)) f.body).1=a:=by conv=>lhs;reduce)(_:a=M:=by(try simp only[Int.reduceOfNat,Int.reduceNegSucc,Im]);rfl)(h:wj n=M:=by kernel_rfl):wj n=M:=h
theorem ai(n:Nat)(f:Func)(i:Nat){a:aP}(_:rK .skip (yZ (some (pc n)) f.body).2 i=a:=by conv=>lhs;reduce)(_:a=M:=by(try simp only[Int.reduceOfNat,Int.reduceNegSucc,Im]);rfl)(h:pc n i=M:=by kernel_rfl):pc n i=M:=h
theorem IL(f:Func){a:List gy}(h:uw f=a:=by conv=>lhs;reduce):uw f=a:=h
theorem aR(c:Func)(f:Nat){l:List gy}(_:uw c=l:=by conv=>lhs;reduce)(a:nJ.get aM f=some c:=by kernel_rfl)(b:sC 5 nJ qh c=some (wj f,l):=by kernel_rfl):yL c f (wj f) l:=⟨a,b⟩
end
section
open Go.au Tryz
set_option maxRecDepth 100000
attribute [local irreducible] rd kc ex bE bF re rg mv bS pick alloc box bi bs be bp st fa cz cN dI c8 dN eB eA ms dx ek ej dY mx mn dX ap ee cJ dZ d_ cm ec ext er neg Go.au.not en ei ep eo ey eu ef ew dR dP u8
def ae':=ai 82 f82 0
def d82:=aU 82 f82
def alD:=aR f82 82
def afa:=ai 83 f83 0
def afb:=ai 83 f83 1
def afc:=ai 83 f83 2
def afd:=ai 83 f83 3
def afe:=ai 83 f83 4
def aff:=ai 83 f83 5
def d83:=aU 83 f83
def alE:=aR f83 83
def afg:=ai 84 f84 0
def afh:=ai 84 f84 1
def afi:=ai 84 f84 2
def M5:=ai 84 f84 3
def M6:=ai 84 f84 4
def M7:=ai 84 f84 5
def M8:=ai 84 f84 6
def d84:=aU 84 f84
def alF:=aR f84 84
def afj:=ai 85 f85 0
def afk:=ai 85 f85 1
def d85:=aU 85 f85
def alG:=aR f85 85
def Fj:=ai 86 f86 0
def d86:=aU 86 f86
def O9:=aR f86 86
def M9:=ai 87 f87 0
def M_:=ai 87 f87 1
def Na:=ai 87 f87 2
def Nb:=ai 87 f87 3
def d87:=aU 87 f87
def O_:=aR f87 87
def Fk:=ai 88 f88 0
def Fl:=ai 88 f88 1
def Fm:=ai 88 f88 2
def d88:=aU 88 f88
def alH:=aR f88 88
def afl:=ai 89 f89 0
def d89:=aU 89 f89
def alI:=aR f89 89
def Nc:=ai 90 f90 0
def Nd:=ai 90 f90 1
def d90:=aU 90 f90
def alJ:=aR f90 90
def afn:=ai 91 f91 0
def d91:=aU 91 f91
def alK:=aR f91 91
def Fp:=ai 96 f96 0
def Fq:=ai 96 f96 1
def d96:=aU 96 f96
def alM:=aR f96 96
def VI:=ai 118 f118 0
def VJ:=ai 118 f118 1
def VK:=ai 118 f118 2
def VL:=ai 118 f118 3
def VM:=ai 118 f118 4
def VN:=ai 118 f118 5
def VO:=ai 118 f118 6
def d118:=aU 118 f118
def ajL:=aR f118 118
def We:=ai 146 f146 0
def Wf:=ai 146 f146 1
def Wq:=ai 146 f146 2
def WB:=ai 146 f146 3
def WE:=ai 146 f146 4
def WG:=ai 146 f146 5
def WH:=ai 146 f146 6
def WI:=ai 146 f146 7
def WJ:=ai 146 f146 8
def WK:=ai 146 f146 9
def Wg:=ai 146 f146 10
def Wh:=ai 146 f146 11
def Wi:=ai 146 f146 12
def Wj:=ai 146 f146 13
def Wk:=ai 146 f146 14
def Wl:=ai 146 f146 15
def Wm:=ai 146 f146 16
def Wn:=ai 146 f146 17
def Wo:=ai 146 f146 18
def Wp:=ai 146 f146 19
def Wr:=ai 146 f146 20
def Ws:=ai 146 f146 21
def Wt:=ai 146 f146 22
def Wu:=ai 146 f146 23
def Wv:=ai 146 f146 24
def Ww:=ai 146 f146 25
def Wx:=ai 146 f146 26
def Wy:=ai 146 f146 27
def Wz:=ai 146 f146 28
def WA:=ai 146 f146 29
def WC:=ai 146 f146 30
def WD:=ai 146 f146 31
def d146:=aU 146 f146
def ajR:=aR f146 146
def WL:=ai 147 f147 0
def WM:=ai 147 f147 1
def WN:=ai 147 f147 2
def WO:=ai 147 f147 3
def WQ:=ai 147 f147 4
def WR:=ai 147 f147 5
def WS:=ai 147 f147 6
def WT:=ai 147 f147 7
def WU:=ai 147 f147 8
def d147:=aU 147 f147
def ajS:=aR f147 147
def WV:=ai 148 f148 0
def WW:=ai 148 f148 1
def WX:=ai 148 f148 2
def WY:=ai 148 f148 3
def WZ:=ai 148 f148 4
def W0:=ai 148 f148 5
def d148:=aU 148 f148
def ajT:=aR f148 148
def W1:=ai 149 f149 0
def W2:=ai 149 f149 1
def W3:=ai 149 f149 2
def W4:=ai 149 f149 3
def W5:=ai 149 f149 4
def W6:=ai 149 f149 5
def W7:=ai 149 f149 6
def d149:=aU 149 f149
def ajU:=aR f149 149
def Xd:=ai 150 f150 0
def Xe:=ai 150 f150 1
def Xf:=ai 150 f150 2
def Xg:=ai 150 f150 3
def Xh:=ai 150 f150 4
def Xi:=ai 150 f150 5
def Xj:=ai 150 f150 6
def Xk:=ai 150 f150 7
def Xl:=ai 150 f150 8
def Xm:=ai 150 f150 9
def d150:=aU 150 f150
def ajW:=aR f150 150
def Zk:=ai 219 f219 0
def Zl:=ai 219 f219 1
def Zm:=ai 219 f219 2
def Zn:=ai 219 f219 3
def Zo:=ai 219 f219 4
def Zp:=ai 219 f219 5
def d219:=aU 219 f219
def akp:=aR f219 219
def MO:=ai 36 f36 0
def MP:=ai 36 f36 1
def MQ:=ai 36 f36 2
def d36:=aU 36 f36
def alc:=aR f36 36
end
end Go.Proofs.YtddhncjmaahodaaGreatDoor
namespace Go.aF
def val:List Nat→Nat
 |[]=>0
 |d::l=>d+4294967296*val l
def aA(l:List Nat):Prop:=∀d∈l,d<4294967296
def aO(l:List Nat):Prop:=l.getLast?≠some 0
variable{a:Nat}{d:List Nat}
theorem aA.cons(h:aA (a::d)):a<4294967296∧aA d:=⟨h a aB,fun x b=>h x (by simp[b])⟩
theorem aA.mk(h:a<4294967296)(b:aA d):aA (a::d):=fun x hx=>by
 rcases g7.1 hx with rfl|hx
 ·exact h
 ·exact b x hx
theorem aA.nil:aA []:=fun _ h=>by cases h
theorem aA.take(h:aA d)(n:Nat):aA (d.take n):=fun x a=>h x (uT a)
theorem aA.drop(h:aA d)(n:Nat):aA (d.drop n):=fun x a=>h x (List.mem_of_mem_drop a)
theorem aA.app{m:List Nat}(h:aA d)(a:aA m):aA (d++m):=fun x hx=>by
 rcases gI.1 hx with hx|hx
 ·exact h x hx
 ·exact a x hx
theorem aA.getD(h:aA d)(i:Nat):d.getD i 0<4294967296:=by
 rw[bX];cases e:d[i]? with
 |none=>simp
 |some x=>exact h x (eT e)
theorem gS:∀ {l:List Nat},aA l→val l<4294967296^l.length
 |[],_=>by simp[val]
 |d::l,h=>by
  have a:=gS h.cons.2;have b:=h.cons.1;simp only[val,cL,cQ];omega
theorem fF:∀(l m:List Nat),val (l++m)=val l+4294967296^l.length*val m
 |[],m=>by simp[val]
 |d::l,m=>by
  simp only[eS,val,cL,cQ,fF l m,bD];rw[bK (4294967296^l.length) 4294967296,bT,jl]
theorem HW(h:a<d.length):d=d.take a++d.getD a 0::d.drop (a+1):=by
 rw[bX,cn h];simp
theorem qV{l:List Nat}{i:Nat}(h:i<l.length):val l=val (l.take i)+4294967296^i*(l.getD i 0+4294967296*val (l.drop (i+1))):=by
 have e:=congrArg val (HW h);rw[fF,g6 (g8 h)]at e;exact e
variable{h:Nat}
theorem zC{a:List Nat}(e:aA a)(hi:h<a.length)(f:h<d.length)(b:a.drop (h+1)=d.drop (h+1))(i:a.getD h 0<d.getD h 0):val a<val d:=by
 rw[qV hi,qV f,b];have c:=gS (e.take h);rw[g6 (g8 hi)]at c;have g:4294967296^h*(a.getD h 0+4294967296*val (d.drop (h+1)))+4294967296^h≤4294967296^h*(d.getD h 0+4294967296*val (d.drop (h+1))):=by
  rw[←Nat.mul_succ];exact fy _ aa
 omega
theorem aO.pos(h:aO d)(a:d≠[]):4294967296^(d.length-1)≤val d:=by
 have hl:0<d.length:=List.length_pos_iff.2 a;have hi:d.length-1<d.length:=aa;rw[qV hi];have:d.getD (d.length-1) 0≠0:=by
  intro e;refine h ?_;rw[List.getLast?_eq_getElem?,cn hi];rw[bX,cn hi]at e;exact congrArg some e
 have b:4294967296^(d.length-1)*1≤4294967296^(d.length-1)*(d.getD (d.length-1) 0+4294967296*val (d.drop (d.length-1+1))):=fy _ aa;omega
theorem sX{a:List Nat}(b:aA a)(c:aO d)(h:a.length<d.length):val a<val d:=by
 have f:=gS b;have g:=c.pos (by intro e;rw[e]at h;exact absurd h (ke _));have i:4294967296^a.length≤4294967296^(d.length-1):=gl aa aa;omega
theorem val_inj:∀ {a b:List Nat},aA a→aA b→a.length=b.length→val a=val b→a=b
 |[],[],_,_,_,_=>rfl
 |x::a,y::b,c,d,hl,h=>by
  have g:=c.cons.1;have i:=d.cons.1;simp only[val]at h;have e:x=y:=aa;have f:val a=val b:=aa;rw[e,val_inj c.cons.2 d.cons.2 (by simpa using hl) f]
theorem canon{a:List Nat}(b:aA a)(c:aA d)(e:aO a)(f:aO d)(h:val a=val d):a=d:=by
 rcases Nat.lt_trichotomy a.length d.length with h1|h1|h1
 ·have:=sX b f h1;omega
 ·exact val_inj b c h1 h
 ·have:=sX c e h1;omega
def trim:List Nat→List Nat
 |[]=>[]
 |d::l=>if trim l=[]∧d=0 then []else d::trim l
theorem yy(l:List Nat):trim (l++[0])=trim l:=by
 induction l with
 |nil=>rfl
 |cons d l a=>simp only[eS,trim,a]
theorem yw(l:List Nat)(d:Nat)(h:d≠0):trim (l++[d])=l++[d]:=by
 induction l with
 |nil=>simp[trim,h]
 |cons e l a=>simp only[eS,trim,a];simp
theorem yC:∀l,val (trim l)=val l
 |[]=>rfl
 |d::l=>by
  have a:=yC l;unfold trim;split
  ·rename_i h;rw[h.1]at a;simp only[val]at a⊢;omega
  ·simp only[val,a]
theorem yx:∀ {l:List Nat},aA l→aA (trim l)
 |[],h=>h
 |d::l,h=>by
  unfold trim;split
  ·exact aA.nil
  ·exact .mk h.cons.1 (yx h.cons.2)
theorem Ar:∀l,aO (trim l)
 |[]=>by simp[trim,aO]
 |d::l=>by
  have a:=Ar l;unfold trim;split
  ·simp[aO]
  ·rename_i h;unfold aO at*;cases e:trim l with
   |nil=>
    rw[e]at h;simp at h;simpa using h
   |cons x m=>
    rw[e]at a;simpa using a
theorem Sb:∀l,(trim l).length≤l.length
 |[]=>aE _
 |d::l=>by
  have:=Sb l;unfold trim;split
  ·simp
  ·simp;exact this
def aN(n:Nat):List Nat:=if h:n=0 then []else n%4294967296::aN (n/4294967296)
termination_by n
decreasing_by omega
theorem iV:aN 0=[]:=by unfold aN;simp
theorem o_(h:a≠0):aN a=a%4294967296::aN (a/4294967296):=by rw[aN];simp[h]
theorem fM(n:Nat):val (aN n)=n:=by
 induction n using jD with
 |ind n a=>
  by_cases h:n=0
  ·subst h;rw[iV];rfl
  ·rw[o_ h];simp only[val,a (n/4294967296) aa];omega
theorem gP(n:Nat):aA (aN n):=by
 induction n using jD with
 |ind n a=>
  by_cases h:n=0
  ·subst h;rw[iV];exact aA.nil
  ·rw[o_ h];exact .mk aa (a _ aa)
theorem pS(n:Nat):aO (aN n):=by
 induction n using jD with
 |ind n b=>
  by_cases h:n=0
  ·subst h;rw[iV];simp[aO]
  ·rw[o_ h];have:=b (n/4294967296) aa;unfold aO at*;cases e:aN (n/4294967296)with
   |nil=>
    by_cases a:n/4294967296=0
    ·have:n%4294967296≠0:=aa;simpa using this
    ·rw[o_ a]at e;cases e
   |cons x m=>
    rw[e]at this;simpa using this
theorem Bj(h:aA d)(t:aO d):aN (val d)=d:=canon (gP _) h (pS _) t (fM _)
theorem pT(h:aA d):trim d=aN (val d):=by
 rw[←yC d];exact(Bj (yx h) (Ar d)).symm
variable{u:Nat}
theorem vh(c:h<4294967296^u):(aN h).length≤u:=by
 by_cases e:aN h=[]
 ·rw[e];exact bQ _
 ·have b:=(pS h).pos e;rw[fM]at b;have d:(aN h).length-1<u:=(Nat.pow_lt_pow_iff_right (a:=4294967296) aa).1 aa;omega
end Go.aF
namespace Go.Proofs.YtddhncjmaahodaaGreatDoor
open Go.au Go.aF
def bt(l:List Nat):List V:=l.map fun d:Nat=>V.int .u32 (d:Int)
def mag(l:List Nat):V:=.row l.length (bt l)
theorem hO(l:List Nat):(bt l).length=l.length:=by simp[bt]
variable{d:List Nat}{a:Nat}
theorem hC(h:a<d.length):cK (bt d) a=some (.int .u32 ((d.getD a 0:Nat):Int)):=by
 rw[gF];simp[bt,h]
@[go_sem]theorem avq(l:List Nat):cT (mag l)=some (.val (ah (l.length:Int))):=rfl
@[go_sem]theorem au6(l:List Nat):bg (mag l)=true:=rfl
@[go_sem]theorem aup(l:List Nat):cellsOf (mag l)=[mag l]:=rfl
@[go_sem]theorem avU(l:List Nat):V.one (mag l)=true:=rfl
variable{q:Int}{n:IntKind}
theorem jw{l:List Nat}(h:0≤q∧q<l.length):dJ none 1 [mag l,.int n q]=some (.val (.cY (bt l) q.toNat)):=by
 rw[mag,kh h,dF]
theorem ap_(a:0≤q∧q≤d.length):slice3 (j7 1) false true false [mag d,.int n q]=some (.val (mag (d.take q.toNat))):=by
 rw[mag,CN (by rw[hO,dF]) a];simp only[mag,bt,dD,dF,List.map_take];rw[(aa:min q.toNat d.length=q.toNat)]
theorem NT(l:List Nat):bY (bt l):=bY.iff.2 fun v h=>by
 simp only[bt,k_]at h;obtain⟨d,_,rfl⟩:=h;exact .int _ _
theorem jZ(l:List Nat):bz (mag l):=.row _ (NT l)
theorem rV(l:List Nat)(hl:l.length<4294967296):aW 87 [mag l] (mag (trim l)):=by
 intro H;refine aT O_ ?_;simp only[d87,Nb,Na];simp only[go_sem];refine bH (fun k F f=>∃m,rd 0 F=mag m∧trim m=trim l∧k=m.length∧m.length≤l.length∧f=H) l.length ⟨l,by simp only[go_sem],rfl,rfl,aE _,rfl⟩ ?_;rintro k F f ⟨m,b,c,rfl,j,rfl⟩;simp only[M_,M9];rcases List.eq_nil_or_concat m with rfl|⟨a,d,rfl⟩
 ·simp(disch:=omega)only[go_sem,b,kP,df];exact⟨by rw[←c];rfl,trivial⟩
 ·rw[List.concat_eq_append]at*;have e:(a++[d]).length=a.length+1:=aB;have i:(bt (a++[d])).length=a.length+1:=by rw[hO,e]
  have hi:(((a.length+1:Nat):Int)-1).toNat=a.length:=aa;have h:(a++[d]).getD a.length 0=d:=aB;by_cases g:d=0
  ·subst g;simp(disch:=omega)only[go_sem,b,e,dt,aH,jw,hi,hC,h,ap_];refine⟨a.length,aa,a,?_,(yy a).symm.trans c,rfl,aa,rfl⟩;simp only[go_sem];simp[]
  ·simp(disch:=omega)only[go_sem,b,e,dt,df,aH,jw,hi,hC,h];rw[←c,yw _ _ g];exact⟨rfl,trivial⟩
theorem amJ(s:Bool)(n:Nat)(a:List V)(b:bY a):aW 86 [.bool s,.row n a] (.agg [.bool (s&&decide (0<n)),.row n a]):=by
 refine pJ (R:=fun v=>v=_) (.cons (.bool _) (.cons (.row _ b) .nil)) (fk.mono (Q:=fun v _=>v=.agg [.bool (s&&decide (0<n)),.row n a]) (fun v c h=>⟨v,.same v,by rw[h];exact .agg (.cons (.bool _) (.cons (.row _ b) .nil)),h⟩) ?_);refine aT O9 ?_;simp only[d86,Fj];cases s
 ·simp only[go_sem,Nat.reduceAdd,Bool.false_and]
 ·simp only[go_sem,Nat.reduceAdd,Bool.true_and];by_cases h:0<n
  ·simp(disch:=omega)only[dt]
  ·simp(disch:=omega)only[df]
def nO(a b:Nat):Int:=if a<b then-1 else if a=b then 0 else 1
theorem KG(a b:List Nat)(q:aA a)(r:aA b)(u:aO a)(v:aO b)(x:a.length<4294967296)(y:b.length<4294967296):aW 148 [mag a,mag b] (ah (nO (val a) (val b))):=by
 intro H;refine aT ajT ?_;simp only[d148,W0,WZ,WY];rcases Nat.lt_trichotomy a.length b.length with h|h|h
 ·have c:=sX q v h;simp(disch:=omega)only[go_sem,Nat.reduceAdd,dt,df];simp[nO,c]
 ·simp(disch:=omega)only[go_sem,Nat.reduceAdd,dt,aH];refine bH (fun k F p=>∃j:Nat,rd 0 F=mag a∧rd 1 F=mag b∧rd 5 F=ah ((j:Int)-1)∧k=j∧j≤a.length∧a.drop j=b.drop j∧p=H) a.length ⟨a.length,?_,?_,?_,rfl,aE _,?_,rfl⟩ ?_
  iterate 3 simp only[go_sem]
  ·rw[jB (aE _),jB aa]
  rintro j F p ⟨_,d,e,f,rfl,w,g,rfl⟩;simp only[WX,WW,WV];cases j with
  |zero=>
   have s:a=b:=by simpa using g
   simp(disch:=omega)only[go_sem,f,dt];rw[s];simp[nO]
  |succ i=>
   have hi:(((i+1:Nat):Int)-1).toNat=i:=aa;have l:i<a.length:=aa;have m:i<b.length:=aa;rcases Nat.lt_trichotomy (a.getD i 0) (b.getD i 0)with t|heq|hgt
   ·have c:=zC q l m g t;simp(disch:=omega)only[go_sem,d,e,f,dt,df,jw,hi,hC];simp[nO,c]
   ·simp(disch:=omega)only[go_sem,d,e,f,dt,df,jw,hi,hC,aH];refine⟨i,aa,i,?_,?_,?_,rfl,aa,?_,rfl⟩
    iterate 2 simp only[go_sem,d,e]
    ·simp only[go_sem];congr 1;omega
    ·rw[lI l,lI m,g];congr 1;simpa [bX,l,m]using heq
   ·have c:=zC r m l g.symm hgt;simp(disch:=omega)only[go_sem,d,e,f,df,jw,hi,hC];have n:¬val a<val b:=aa;have o:¬val a=val b:=aa;simp[nO,n,o]
 ·have c:=sX r u h;simp(disch:=omega)only[go_sem,Nat.reduceAdd,df];have n:¬val a<val b:=aa;have o:¬val a=val b:=aa;simp[nO,n,o]
theorem mC(l:List Nat)(i v:Nat):(bt l).set i (.int .u32 (v:Int))=bt (l.set i v):=by simp[bt,List.map_set]
theorem qN(n:Nat):rR (n:Int) (dU 32 (gK .u64))=((n/4294967296:Nat):Int):=rfl
theorem pD(n:Nat):(n:Int)%4294967296=((n%4294967296:Nat):Int):=aa
theorem Rw(ds:List Nat)(k v:Nat):(ds++aX (k+1) 0).set ds.length v=(ds++[v])++aX k 0:=by
 simp[p7]
theorem pW{l:List Nat}{i:Nat}(h:i<l.length):val (l.take (i+1))=val (l.take i)+4294967296^i*l.getD i 0:=by
 rw[kQ h,fF,g6 (g8 h),bX,cn h];simp[val]
theorem I_(x y:List Nat)(S:aA x)(T:aA y)(hl:y.length≤x.length)(Y:x.length<4294967295)(b:Nat)(F:Fr)(H:af)(R:X→Fr→af→Prop)(c:Cap)
 (A:rd 0 F=mag x) (B:rd 1 F=mag y) (C:rd 5 F=.slice b 0 (x.length+1) c) (D:rd 6 F=ay 0) (E:rd 7 F=ah 0) (L:H.get b=.cells (bt (aX (x.length+1) 0)) 0)
 (M:∀i n ds a,rd 0 i=mag x→rd 5 i=.slice b 0 (x.length+1) c→rd 6 i=ay ((a:Nat):Int)→a≤1→ds.length=x.length→aA ds→val ds+4294967296^x.length*a=val x+val y→n.get b=.cells (bt (ds++[0])) 0→n.next=H.next→R (.exit 0) i n):
 bx (.loop (pc 147 2)) R F H:=by
 refine bH (fun k d f=>∃ds a,rd 0 d=mag x∧rd 1 d=mag y∧rd 5 d=.slice b 0 (x.length+1) c∧rd 6 d=ay ((a:Nat):Int)∧rd 7 d=ah ((ds.length:Nat):Int)∧a≤1∧k=x.length-ds.length∧ds.length≤x.length∧aA ds∧
  val ds+4294967296^ds.length*a=val (x.take ds.length)+val (y.take ds.length)∧f.get b=.cells (bt (ds++aX (x.length-ds.length+1) 0)) 0∧f.next=H.next) x.length ⟨[],0,A,B,C,D,E,aa,rfl,bQ _,aA.nil,rfl,L,rfl⟩ ?_
 rintro k d f ⟨ds,a,g,j,h,o,p,N,rfl,V,z,t,l,w⟩;simp only[WN,WM,WL];by_cases hi:ds.length<x.length
 ·obtain⟨m,P⟩:∃m,x.length-ds.length=m+1:=⟨x.length-ds.length-1,aa⟩;have ab:=S.getD ds.length;have ac:=T.getD ds.length;have v:((ds.length:Nat):Int).toNat=ds.length:=aa;skip;rw[P]at l⊢;have W:(bt (ds++aX (m+1+1) 0)).length=ds.length+m+2:=by simp[hO];omega
  have u:∀(e:Fr) (s:Nat),s<4294967296*2→rd 0 e=mag x→rd 1 e=mag y→rd 5 e=.slice b 0 (x.length+1) c→rd 6 e=ay ((s/4294967296:Nat):Int)→rd 7 e=ah (((ds.length:Nat):Int)+1)→
   4294967296^ds.length*s+val ds=val (x.take (ds.length+1))+val (y.take (ds.length+1))→
   oY (fun k d f=>∃ds a,rd 0 d=mag x∧rd 1 d=mag y∧rd 5 d=.slice b 0 (x.length+1) c∧rd 6 d=ay ((a:Nat):Int)∧rd 7 d=ah ((ds.length:Nat):Int)∧a≤1∧k=x.length-ds.length∧ds.length≤x.length∧aA ds∧
    val ds+4294967296^ds.length*a=val (x.take ds.length)+val (y.take ds.length)∧f.get b=.cells (bt (ds++aX (x.length-ds.length+1) 0)) 0∧f.next=H.next) (m+1) e (f.set b (.cells (bt ((ds++aX (m+1+1) 0).set ds.length (s%4294967296))) 0)):=by
   intro e s Z G I J K br Q;refine⟨m,aa,ds++[s%4294967296],s/4294967296,G,I,J,K,?_,aa,?_,?_,z.app (.mk aa aA.nil),?_,?_,w⟩
   ·rw[br];simp
   ·simp;omega
   ·simp;omega
   ·rw[fF];simp only[aS,gH,cQ,val,fc,cE];rw[←Q];have U:4294967296^ds.length*s=4294967296^ds.length*(s%4294967296)+4294967296^ds.length*4294967296*(s/4294967296):=by
     rw[bT,←bD,Nat.mod_add_div]
    omega
   ·rw[af.aK,ak rfl,Rw];have:x.length-(ds++[s%4294967296]).length+1=m+1:=by simp;omega
    rw[this]
  by_cases O:ds.length<y.length
  ·have r:((a:Nat):Int)+((x.getD ds.length 0:Nat):Int)+((y.getD ds.length 0:Nat):Int)=((a+x.getD ds.length 0+y.getD ds.length 0:Nat):Int):=aa;simp(disch:=omega)only[go_sem,g,j,h,o,p,dt,jw,b3,v,hC,bW,aH,r,qN,n8,pD,l,e9,mC];refine u _ (a+x.getD ds.length 0+y.getD ds.length 0) aa ?_ ?_ ?_ ?_ ?_ ?_
   iterate 5 simp only[go_sem,g,j,h]
   ·rw[pW hi,pW O,bD,bD];omega
  ·have r:((a:Nat):Int)+((x.getD ds.length 0:Nat):Int)=((a+x.getD ds.length 0:Nat):Int):=aa;simp(disch:=omega)only[go_sem,g,j,h,o,p,dt,df,jw,b3,v,hC,bW,aH,r,qN,n8,pD,l,e9,mC];refine u _ (a+x.getD ds.length 0) aa ?_ ?_ ?_ ?_ ?_ ?_
   iterate 5 simp only[go_sem,g,j,h]
   ·rw[b_ (aa:y.length≤ds.length)]at t;rw[pW hi,b_ (aa:y.length≤ds.length+1),bD];omega
 ·have q:ds.length=x.length:=aa;simp(disch:=omega)only[go_sem,g,p,df];refine M _ _ ds a ?_ ?_ ?_ N q z ?_ ?_ w
  iterate 3 simp only[go_sem,g,h,o]
  ·rw[q,b_ (aE _),b_ hl]at t;exact t
  ·rw[l,q];simp
theorem vY(n:Nat):rep [V.int .u32 0] n=bt (aX n 0):=by
 induction n with
 |zero=>rfl
 |succ n a=>
  show cW [V.int .u32 0] (rep [V.int .u32 0] n)=_;rw[iP,a];simp[bt,p7]
variable{c:af}{H:af}{h:Nat}
theorem rA{b:Cap}{l:List Nat}(e:c.get a=.cells (bt l) 0)(f:H.get a=.none)(g:l.length=h):bR c H (.slice a 0 h b) (mag l):=by
 subst g;cases l with
 |nil=>exact .eW a 0 b
 |cons d l=>
  refine .row (m:=(d::l).length) (cs:=bt (d::l)) ?_ (lf _) f (cD.refl _);rw[fJ e,c_,e4,ak (by rw[hO];exact aE _),b_ (by rw[hO];exact aE _)]
theorem I7(a b:List Nat)(o:aA a)(p:aA b)(u:a.length<4294967295)(w:b.length<4294967295):aW 147 [mag a,mag b] (mag (aN (val a+val b))):=by
 refine pJ (R:=fun v=>v=_) (.cons (jZ _) (.cons (jZ _) .nil)) (fk.mono (Q:=fun v _=>v=mag (aN (val a+val b))) (fun v y h=>⟨v,.same v,by rw[h];exact jZ _,h⟩) ?_);refine aT ajS ?_;simp only[d147,WU,WT,WS,WR,WQ,WO]
 have r:∀(x:List Nat) (F:Fr) (H:af) (ds:List Nat) (c gL:Nat),x.length<4294967295→c≤1→ds.length=x.length→aA ds→val ds+4294967296^x.length*c=val a+val b→H.get gL=.cells (bt (ds++[0])) 0→rd 0 F=mag x→rd 5 F=.slice gL 0 (x.length+1) (.known (x.length+1))→rd 6 F=ay ((c:Nat):Int)→
  bx (.seq (.bN [ex 50 (mv (rd 5)),ex 51 (mv (rd 0)),ex 52 (dx (rd 51)),ex 53 (mv (rd 6)),ex 54 (cJ .u32 (rd 53)),ex 55 (cz none 1 (rd 50) (rd 52)),bE (st 1 (rd 55) (rd 54))])
   (.seq (.bN [ex 56 (mv (rd 5)),ex 57 (cm 87 [(rd 56)]),ex 4 (bS (rd 57))]) .ret)) (gk [.tmp 4] fun v _=>v=mag (aN (val a+val b))) F H:=by
  intro x F H ds c gL A k d j l i e f g;have z:(bt (ds++[0])).length=x.length+1:=by rw[hO];simp[d]
  have t:(ds++[0]).set x.length c=ds++[c]:=by rw[←d];simp
  simp(disch:=omega)only[go_sem,e,f,g,gC,b3,i,e9,mC,t];have s:(ds++[c]).length=x.length+1:=by simp[d]
  have q:(H.set gL (.cells (bt (ds++[c])) 0)).get gL=.cells (bt (ds++[c])) 0:=by rw[af.aK,ak rfl]
  refine jk (rV (ds++[c]) aa) q ⟨0,_,_,dj.2 rfl⟩ (.cons (rA q (by rw[af.aK,ak rfl]) s) .nil) ?_;simp only[go_sem];rw[pT (j.app (.mk aa aA.nil)),fF,d,←l];simp[val]
 by_cases h:a.length<b.length
 ·simp(disch:=omega)only[go_sem,dt,aH,ir,vY];refine I_ b a p o (g8 h) aa 5 _ _ _ (.known (b.length+1)) ?_ ?_ ?_ ?_ ?_ ?_ ?_
  iterate 6 simp only[go_sem]
  ·intro m n ds c e f g k d j l i _;rw[fA];exact r b m n ds c 5 w k d j aa i e f g
 ·simp(disch:=omega)only[go_sem,df,aH,ir,vY];refine I_ a b o p aa aa 5 _ _ _ (.known (a.length+1)) ?_ ?_ ?_ ?_ ?_ ?_ ?_
  iterate 6 simp only[go_sem]
  ·intro m n ds c e f g k d j l i _;rw[fA];exact r a m n ds c 5 u k d j l i e f g
theorem y2:nN (pO .u64) (dM .u64) a=(a:Int):=rfl
theorem uA(h:a<18446744073709551616):gQ (dM .u64) (a:Int)=a:=jV h
theorem DO(h:a<18446744073709551616):g9 (hU .and) [ay (a:Int),ay 1]=some (.val (ay ((a%2:Nat):Int))):=by
 show some (aY.val (ay (nN (pO .u64) (dM .u64) (Nat.land (gQ (dM .u64) (a:Int)) (gQ (dM .u64) 1)))))=_;rw[uA h,y2,show gQ (dM .u64) 1=1 from rfl];exact congrArg (fun m:Nat=>some (aY.val (ay (m:Int)))) (Nat.and_one_is_mod a)
theorem aqH(x y:List Nat)(W:aA x)(Y:aA y)(hl:y.length≤x.length)(hs:x.length<4294967295)(b:Nat)(F:Fr)(H:af)(R:X→Fr→af→Prop)(c:Cap)
 (A:rd 0 F=mag x) (B:rd 1 F=mag y) (C:rd 5 F=.slice b 0 x.length c) (D:rd 6 F=ay 0) (E:rd 7 F=ah 0) (M:H.get b=.cells (bt (aX x.length 0)) 0)
 (N:∀r t ds a,rd 5 r=.slice b 0 x.length c→a≤1→ds.length=x.length→aA ds→val x+4294967296^x.length*a=val ds+val y→t.get b=.cells (bt ds) 0→R (.exit 0) r t):
 bx (.loop (pc 149 2)) R F H:=by
 refine bH (fun k d f=>∃ds a,rd 0 d=mag x∧rd 1 d=mag y∧rd 5 d=.slice b 0 x.length c∧rd 6 d=ay ((a:Nat):Int)∧rd 7 d=ah ((ds.length:Nat):Int)∧a≤1∧k=x.length-ds.length∧ds.length≤x.length∧aA ds∧
  val (x.take ds.length)+4294967296^ds.length*a=val ds+val (y.take ds.length)∧f.get b=.cells (bt (ds++aX (x.length-ds.length) 0)) 0) x.length ⟨[],0,A,B,C,D,E,aa,rfl,bQ _,aA.nil,rfl,M⟩ ?_
 rintro k d f ⟨ds,a,g,i,h,u,o,O,rfl,hd,z,w,j⟩;simp only[W3,W2,W1];by_cases hi:ds.length<x.length
 ·obtain⟨m,S⟩:∃m,x.length-ds.length=m+1:=⟨x.length-ds.length-1,aa⟩;have ae:=W.getD ds.length;have Z:=Y.getD ds.length;rw[S]at j⊢;have ac:(bt (ds++aX (m+1) 0)).length=ds.length+m+1:=by simp[hO];omega
  have v:∀(e:Fr) (s n:Nat),s<18446744073709551616→n<4294967296→(x.getD ds.length 0+4294967296*(s/4294967296%2)=s%4294967296+a+n)→rd 0 e=mag x→rd 1 e=mag y→rd 5 e=.slice b 0 x.length c→rd 6 e=ay ((s/4294967296%2:Nat):Int)→rd 7 e=ah (((ds.length:Nat):Int)+1)→
   val (y.take (ds.length+1))=val (y.take ds.length)+4294967296^ds.length*n→
   oY (fun k d f=>∃ds a,rd 0 d=mag x∧rd 1 d=mag y∧rd 5 d=.slice b 0 x.length c∧rd 6 d=ay ((a:Nat):Int)∧rd 7 d=ah ((ds.length:Nat):Int)∧a≤1∧k=x.length-ds.length∧ds.length≤x.length∧aA ds∧
    val (x.take ds.length)+4294967296^ds.length*a=val ds+val (y.take ds.length)∧f.get b=.cells (bt (ds++aX (x.length-ds.length) 0)) 0) (m+1) e (f.set b (.cells (bt ((ds++aX (m+1) 0).set ds.length (s%4294967296))) 0)):=by
   intro e s n l al P G I J K br V;refine⟨m,aa,ds++[s%4294967296],s/4294967296%2,G,I,J,K,?_,aa,?_,?_,z.app (.mk aa aA.nil),?_,?_⟩
   ·rw[br];simp
   ·simp;omega
   ·simp;omega
   ·rw[fF];simp only[aS,gH,cQ,val,fc,cE];rw[V,pW hi];have L:=congrArg (4294967296^ds.length* ·) P;simp only[bD,←bT]at L;omega
   ·rw[af.aK,ak rfl,Rw];have:x.length-(ds++[s%4294967296]).length=m:=by simp;omega
    rw[this]
  by_cases Q:ds.length<y.length
  ·obtain⟨s,U,l,q⟩:∃s:Nat,((((x.getD ds.length 0:Nat):Int)-(a:Int))%18446744073709551616-((y.getD ds.length 0:Nat):Int))%18446744073709551616=(s:Int)∧s<18446744073709551616∧x.getD ds.length 0+4294967296*(s/4294967296%2)=s%4294967296+a+y.getD ds.length 0:=by
    refine⟨((((x.getD ds.length 0:Nat):Int)-(a:Int)-((y.getD ds.length 0:Nat):Int))%18446744073709551616).toNat,?_,?_,?_⟩<;>omega
   simp(disch:=omega)only[go_sem,g,i,h,u,o,dt,jw,b3,hC,bW,hJ,aH,U,qN,n8,pD,DO,j,e9,mC];refine v _ s (y.getD ds.length 0) l Z q ?_ ?_ ?_ ?_ ?_ (pW Q)
   iterate 5 simp only[go_sem,g,i,h]
  ·obtain⟨s,T,l,q⟩:∃s:Nat,(((x.getD ds.length 0:Nat):Int)-(a:Int))%18446744073709551616=(s:Int)∧s<18446744073709551616∧x.getD ds.length 0+4294967296*(s/4294967296%2)=s%4294967296+a+0:=by
    refine⟨((((x.getD ds.length 0:Nat):Int)-(a:Int))%18446744073709551616).toNat,?_,?_,?_⟩<;>omega
   simp(disch:=omega)only[go_sem,g,i,h,u,o,dt,df,jw,b3,hC,bW,hJ,aH,T,qN,n8,pD,DO,j,e9,mC];refine v _ s 0 l aa q ?_ ?_ ?_ ?_ ?_ ?_
   iterate 5 simp only[go_sem,g,i,h]
   ·rw[b_ (aa:y.length≤ds.length),b_ (aa:y.length≤ds.length+1)];simp
 ·have p:ds.length=x.length:=aa;simp(disch:=omega)only[go_sem,g,o,df];refine N _ _ ds a ?_ O p z ?_ ?_
  ·simp only[go_sem,h]
  ·rw[p,b_ (aE _),b_ hl]at w;exact w
  ·rw[j,p];simp
theorem R3(a b:List Nat)(k:aA a)(l:aA b)(hl:b.length≤a.length)(s:val b≤val a)(m:a.length<4294967295):aW 149 [mag a,mag b] (mag (aN (val a-val b))):=by
 refine pJ (R:=fun v=>v=_) (.cons (jZ _) (.cons (jZ _) .nil)) (fk.mono (Q:=fun v _=>v=mag (aN (val a-val b))) (fun v p h=>⟨v,.same v,by rw[h];exact jZ _,h⟩) ?_);refine aT ajU ?_;simp only[d149,W7,W6,W5,W4];simp(disch:=omega)only[go_sem,ir,vY];refine aqH a b k l hl m 5 _ _ _ (.known a.length) ?_ ?_ ?_ ?_ ?_ ?_ ?_
 iterate 6 simp only[go_sem]
 ·intro n o ds c g q e f r d;simp only[go_sem,g];have j:=gS f;have i:c=0:=by
   rw[e]at j;rcases mj 0 c with h2|h2
   ·have:4294967296^a.length*1≤4294967296^a.length*c:=fy _ h2;omega
   ·omega
  subst i;refine jk (rV ds aa) d ⟨0,_,_,dj.2 rfl⟩ (.cons (rA d (by rw[af.aK,ak rfl]) e) .nil) ?_;simp only[go_sem];rw[pT f];congr 2;omega
theorem Ad:((2^dU 32 (gK .u64):Nat):Int)=4294967296:=rfl
theorem uG(a b:Nat):mg (a:Int) (b:Int)=((a/b:Nat):Int):=rfl
theorem yq(a b:Nat):m3 (a:Int) (b:Int)=((a%b:Nat):Int):=rfl
theorem zT(c:a<4294967296∧h<4294967296):g9 (hU .or) [ay ((a:Int)*4294967296),ay (h:Int)]=some (.val (ay ((a*4294967296+h:Nat):Int))):=by
 have e:((a:Int)*4294967296)=((a*4294967296:Nat):Int):=aa;rw[e];show some (aY.val (ay (nN (pO .u64) (dM .u64) (Nat.lor (gQ (dM .u64) ((a*4294967296:Nat):Int)) (gQ (dM .u64) (h:Int))))))=_;rw[uA aa,uA aa,y2];refine congrArg (fun m:Nat=>some (aY.val (ay (m:Int)))) ?_;have b:=Nat.shiftLeft_add_eq_or_of_lt (i:=32) (show h<2^32 from c.2) a;rw[Nat.shiftLeft_eq]at b;exact b.symm
theorem af7(h:a<d.length):val (d.drop a)=d.getD a 0+4294967296*val (d.drop (a+1)):=by
 rw[lI h,bX,cn h];rfl
theorem HO(i v:Nat)(a:List Nat):(aX (i+1) 0++a).set i v=aX i 0++v::a:=by
 rw[List.replicate_succ',eJ,List.set_append_right _ _ aB];simp
theorem RQ(a:List Nat)(d:Nat)(z:aA a)(f:0<d∧d<4294967296)(J:a.length<4294967295):aW 118 [mag a,.int .u32 (d:Int)] (.az [mag (aN (val a/d)),.int .u32 ((val a%d:Nat):Int)]):=by
 refine pJ (R:=fun v=>v=_) (.cons (jZ _) (.cons (.int _ _) .nil)) (fk.mono (Q:=fun v _=>v=.az [mag (aN (val a/d)),.int .u32 ((val a%d:Nat):Int)]) (fun v g h=>⟨v,.same v,by rw[h];exact .az (.cons (jZ _) (.cons (.int _ _) .nil)),h⟩) ?_);refine aT ajL ?_;simp only[d118,VO,VN,VM,VL];simp(disch:=omega)only[go_sem,ir,vY,aH];refine bH (fun k c g=>∃(j r:Nat) (b:List Nat),rd 0 c=mag a∧rd 1 c=.int .u32 (d:Int)∧rd 6 c=.slice 5 0 a.length (.known a.length)∧rd 7 c=ay (r:Int)∧rd 8 c=ah ((j:Int)-1)∧k=j∧j≤a.length∧aA b∧b.length=a.length-j∧r<d∧val b*d+r=val (a.drop j)∧g.get 5=.cells (bt (aX j 0++b)) 0) a.length ⟨a.length,0,[],?_,?_,?_,?_,?_,rfl,aE _,aA.nil,aB,f.1,by simp[val],?_⟩ ?_
 iterate 3 simp only[go_sem]
 ·simp only[go_sem];rfl
 ·simp only[go_sem]
 ·simp only[go_sem];simp
 rintro j c g ⟨_,r,b,p,s,l,t,u,rfl,F,y,hl,n,o,e⟩;simp only[VK,VJ,VI];cases j with
 |zero=>
  simp(disch:=omega)only[go_sem,l,u,dt];have B:b.length=a.length:=aa;rw[p8,eI]at e;refine jk (rV b aa) e ⟨0,_,_,dj.2 rfl⟩ (.cons (rA e (by rw[af.aK,ak rfl]) B) .nil) ?_;simp(disch:=omega)only[go_sem,t,gC];rw[List.drop_zero]at o;rw[pT y,←o,bK (val b) d,Nat.mul_add_mod,jV n,Nat.mul_add_div f.1,m4 n,cE]
 |succ i=>
  have A:i<a.length:=aa;have I:=z.getD i;have hi:(((i+1:Nat):Int)-1).toNat=i:=aa;have x:(r*4294967296+a.getD i 0)/d<4294967296:=by
   rw[q8 f.1];have:(r+1)*4294967296≤d*4294967296:=dn _ n;rw[bK d]at this;omega
  have w:=eU (r*4294967296+a.getD i 0) f.1;have m:=jm (r*4294967296+a.getD i 0) d;generalize C:(r*4294967296+a.getD i 0)/d=q at x m
  generalize D:(r*4294967296+a.getD i 0)%d=E at w m
  have G:(bt (aX (i+1) 0++b)).length=a.length:=by rw[hO];simp;omega
  have H:((d:Nat):Int)≠0:=aa;simp(disch:=omega)only[go_sem,p,s,l,t,u,df,jw,b3,hi,hC,Ad,bW,aH,zT,jG,mB,uG,yq,C,D,gC,e,e9,mC,HO];refine⟨i,aa,i,E,q::b,?_,?_,?_,?_,?_,rfl,aa,.mk x y,by simp;omega,w,?_,?_⟩
  iterate 4 simp only[go_sem,p,s,l]
  ·simp only[go_sem];congr 1;omega
  ·rw[af7 A,←o];simp only[val];rw[bK d]at m;rw[cF,bT,bD];omega
  ·rw[af.aK,ak rfl]
theorem qW:∀ {l:List Nat}{p v:Nat},p<l.length→val (l.set p v)+4294967296^p*l.getD p 0=val l+4294967296^p*v
 |[],_,_,h=>absurd h (ke _)
 |d::l,0,v,_=>by simp[val];omega
 |d::l,p+1,v,h=>by
  have a:=qW (l:=l) (p:=p) (v:=v) (by simpa using h);have e:(d::l).getD (p+1) 0=l.getD p 0:=aB;rw[e];simp only[List.set_cons_succ,val,cQ];rw[tJ,tJ _ _ v];omega
theorem pG(h:aA d){p v:Nat}(b:v<4294967296):aA (d.set p v):=fun x a=>by
 rcases List.mem_or_eq_of_mem_set a with a|rfl
 ·exact h x a
 ·exact b
theorem getD_set_ne{v:Nat}(b:a≠h):(d.set a v).getD h 0=d.getD h 0:=by
 simp[bX,b]
theorem Cg(b:a<4294967296)(c:h<4294967296):a*h≤18446744065119617025:=by
 have:=j_ (aa:a≤4294967295) (aa:h≤4294967295);omega
theorem am4(a b:List Nat)(S:aA a)(T:aA b)(i n j:Nat)(hi:i<a.length)(hn:n=a.length+b.length)(hs:n<4294967295)(c:Cap)(F:Fr)(H:af)(R:X→Fr→af→Prop)(g:List Nat)
 (E:rd 0 F=mag a) (G:rd 1 F=mag b) (I:rd 5 F=.slice 5 0 n c) (J:rd 6 F=ah (i:Int)) (K:rd 7 F=ay 0) (M:rd 8 F=ah 0) (N:H.get 5=.cells (bt g) 0) (O:g.length=n) (ar:aA g) (ae:val g=j) (ap:∀p,i+b.length≤p→g.getD p 0=0)
 (P:∀f u L d,rd 0 f=mag a→rd 1 f=mag b→rd 5 f=.slice 5 0 n c→rd 6 f=ah (i:Int)→rd 7 f=ay ((d:Nat):Int)→d<4294967296→L.length=n→aA L→(∀p,i+b.length≤p→L.getD p 0=0)→val L+4294967296^(i+b.length)*d=j+4294967296^i*(a.getD i 0*val b)→u.get 5=.cells (bt L) 0→R (.exit 2) f u):
 bx (.loop (pc 150 2)) R F H:=by
 refine bH (fun m e v=>∃(k d:Nat) (L:List Nat),rd 0 e=mag a∧rd 1 e=mag b∧rd 5 e=.slice 5 0 n c∧rd 6 e=ah (i:Int)∧rd 7 e=ay ((d:Nat):Int)∧rd 8 e=ah (k:Int)∧d<4294967296∧m=b.length-k∧k≤b.length∧L.length=n∧aA L∧(∀p,i+b.length≤p→L.getD p 0=0)∧
  val L+4294967296^(i+k)*d=j+4294967296^i*(a.getD i 0*val (b.take k))∧v.get 5=.cells (bt L) 0) b.length ⟨0,0,g,E,G,I,J,K,M,aa,rfl,bQ _,O,ar,ap,by simp[val,ae],N⟩ ?_
 rintro m e v ⟨k,d,L,l,h,o,r,w,x,V,rfl,hk,hl,t,D,C,y⟩;simp only[Xf,Xe,Xd];by_cases Y:k<b.length
 ·have al:=S.getD i;have am:=T.getD k;have a4:=t.getD (i+k);have hp:=Cg al am;have a2:(bt L).length=n:=by rw[hO,hl]
  have W:((i:Int)+(k:Int)).toNat=i+k:=aa;have B:=qW (l:=L) (p:=i+k) (v:=(d+(a.getD i 0*b.getD k 0+L.getD (i+k) 0))%4294967296) aa;have A:((a.getD i 0:Nat):Int)*((b.getD k 0:Nat):Int)=((a.getD i 0*b.getD k 0:Nat):Int):=by rw[fU]
  have U:val (b.take (k+1))=val (b.take k)+4294967296^k*b.getD k 0:=pW Y;have z:4294967296^i*(a.getD i 0*(val (b.take k)+4294967296^k*b.getD k 0))=4294967296^i*(a.getD i 0*val (b.take k))+4294967296^(i+k)*(a.getD i 0*b.getD k 0):=by
   rw[bD,bD,gw,mo (a.getD i 0),bT]
  generalize a.getD i 0*b.getD k 0=p at hp B A z
  have ad:(d:Int)+((p:Int)+((L.getD (i+k) 0:Nat):Int))=((d+(p+L.getD (i+k) 0):Nat):Int):=aa;simp(disch:=omega)only[go_sem,l,h,o,r,w,x,dt,jw,b3,W,hC,bW,aH,A,ad,qN,n8,pD,y,e9,mC];refine⟨b.length-(k+1),aa,k+1,(d+(p+L.getD (i+k) 0))/4294967296,L.set (i+k) ((d+(p+L.getD (i+k) 0))%4294967296),?_,?_,?_,?_,?_,?_,aa,rfl,aa,by rw[gT,hl],pG t aa,fun q hq=>by rw[getD_set_ne aa];exact D q hq,?_,?_⟩
  iterate 5 simp only[go_sem,l,h,o,r]
  ·simp only[go_sem];congr 1
  ·rw[U,z];generalize Q:d+(p+L.getD (i+k) 0)=s at B
   have h3:4294967296^(i+k)*s=4294967296^(i+k)*(s%4294967296)+4294967296^(i+(k+1))*(s/4294967296):=by
    rw[show i+(k+1)=i+k+1 from rfl,cQ,bT,←bD,Nat.mod_add_div]
   have h4:4294967296^(i+k)*s=4294967296^(i+k)*d+(4294967296^(i+k)*p+4294967296^(i+k)*L.getD (i+k) 0):=by rw[←Q,bD,bD]
   omega
  ·rw[af.aK,ak rfl]
 ·have Z:k=b.length:=aa;subst Z;simp(disch:=omega)only[go_sem,h,x,df];rw[b_ (aE _)]at C;refine P _ _ L d ?_ ?_ ?_ ?_ ?_ V hl t D C y
  iterate 5 simp only[go_sem,l,h,o,r,w]
theorem Qf(n:Nat):aA (aX n 0):=fun x a=>by
 have:=List.eq_of_mem_replicate a;omega
theorem Sq(n:Nat):val (aX n 0)=0:=by
 induction n with
 |zero=>rfl
 |succ n a=>simp[p7,val,a]
theorem PN(a b:List Nat)(E:aA a)(F:aA b)(J:a.length+b.length<4294967295):aW 150 [mag a,mag b] (mag (aN (val a*val b))):=by
 refine pJ (R:=fun v=>v=_) (.cons (jZ _) (.cons (jZ _) .nil)) (fk.mono (Q:=fun v _=>v=mag (aN (val a*val b))∨(v=.an∧aN (val a*val b)=[])) (fun v d h=>?_) ?_)
 ·rcases h with h|⟨h,C⟩
  ·exact⟨v,.same v,by rw[h];exact jZ _,h⟩
  ·refine⟨mag [],by rw[h];exact .fK,jZ _,by rw[C]⟩
 refine aT ajW ?_;simp only[d150,Xm,Xl,Xk,Xj];by_cases O:a.length=0
 ·have x:a=[]:=oT O;simp(disch:=omega)only[go_sem,dt];refine .inr ⟨trivial,?_⟩;rw[x];simp[val,iV]
 by_cases P:b.length=0
 ·have y:b=[]:=oT P;simp(disch:=omega)only[go_sem,dt,df];refine .inr ⟨trivial,?_⟩;rw[y];simp[val,iV]
 have K:((a.length:Int)+(b.length:Int)).toNat=a.length+b.length:=aa;simp(disch:=omega)only[go_sem,df,aH,ir,vY,K]
 refine bH (fun m c d=>∃(i:Nat) (L:List Nat),rd 0 c=mag a∧rd 1 c=mag b∧rd 5 c=.slice 5 0 (a.length+b.length) (.known (a.length+b.length))∧rd 6 c=ah (i:Int)∧m=a.length-i∧i≤a.length∧L.length=a.length+b.length∧aA L∧(∀p,i+b.length≤p→L.getD p 0=0)∧val L=val (a.take i)*val b∧d.get 5=.cells (bt L) 0) a.length
  ⟨0,aX (a.length+b.length) 0,?_,?_,?_,?_,rfl,bQ _,aB,Qf _,?_,?_,?_⟩ ?_
 iterate 3 simp only[go_sem]
 ·simp only[go_sem];rfl
 ·intro p _;simp only[bX,List.getElem?_replicate];split<;>rfl
 ·rw[Sq];simp[val]
 ·simp only[go_sem]
 rintro m c d ⟨i,L,f,z,l,g,rfl,hi,hl,w,N,t,j⟩;simp only[Xi,Xh,Xg];by_cases q:i<a.length
 ·simp(disch:=omega)only[go_sem,f,g,dt];refine am4 a b E F i (a.length+b.length) (val (a.take i)*val b) q rfl J (.known (a.length+b.length)) _ _ _ L ?_ ?_ ?_ ?_ ?_ ?_ j hl w t N ?_
  iterate 6 simp only[go_sem,f,z,l,g]
  intro R S e k A n o B br G r Q u M D;have T:(bt e).length=a.length+b.length:=by rw[hO,r]
  have H:((i:Int)+(b.length:Int)).toNat=i+b.length:=aa;have s:=qW (l:=e) (p:=i+b.length) (v:=k) aa;rw[u _ (aE _),fc,cE]at s;simp(disch:=omega)only[go_sem,n,o,B,br,b3,H,gC,aH,D,e9,mC];refine⟨a.length-(i+1),aa,i+1,e.set (i+b.length) k,?_,?_,?_,?_,rfl,aa,by rw[gT,r],pG Q G,fun p U=>by rw[getD_set_ne aa];exact u p aa,?_,?_⟩
  iterate 3 simp only[go_sem,A,n,o]
  ·simp only[go_sem];congr 1
  ·rw[s,M,pW q,cF,bT]
  ·rw[af.aK,ak rfl]
 ·have I:i=a.length:=aa;subst I;simp(disch:=omega)only[go_sem,f,l,g,df];refine jk (rV L aa) j ⟨0,_,_,dj.2 rfl⟩ (.cons (rA j (by rw[af.aK,ak rfl]) hl) .nil) ?_;simp only[go_sem];rw[pT w,t,b_ (aE _)];exact .inl rfl
def dL(z:Int):List V:=[.bool (decide (z<0)),mag (aN z.natAbs)]
def ct(z:Int):V:=.agg (dL z)
theorem agT(z:Int):bY (dL z):=.cons (.bool _) (.cons (jZ _) .nil)
theorem ju(z:Int):bz (ct z):=.agg (agT z)
def dW(n:Nat):Prop:=n<4294967296^1000000
theorem dW.len(h:dW a):(aN a).length≤1000000:=vh h
theorem sE(n:Nat):0<(aN n).length↔n≠0:=by
 constructor
 ·intro h e;rw[e,iV]at h;exact absurd h (Nat.lt_irrefl _)
 ·intro h;rw[o_ h];exact lf _
theorem B6{a:Nat}(b:a≤h):(aN a).length≤(aN h).length:=by
 by_cases e:aN h=[]
 ·have:=fM h;rw[e]at this;have c:a=0:=by simp[val]at this;omega
  rw[c,iV];exact bQ _
 ·refine vh (eY b ?_);have:=gS (gP h);rwa[fM]at this
theorem qF(s:Bool)(n:Nat):aW 86 [.bool s,mag (aN n)] (ct (if s then-(n:Int)else n)):=by
 have h:=amJ s (aN n).length (bt (aN n)) (NT _);have e:V.agg [.bool (s&&decide (0<(aN n).length)),.row (aN n).length (bt (aN n))]=ct (if s then-(n:Int)else n):=by
  unfold ct dL mag;have a:(if s then-(n:Int)else n).natAbs=n:=by cases s<;>simp
  have b:decide ((if s then-(n:Int)else n)<0)=(s&&decide (0<(aN n).length)):=by
   cases s
   ·simp
   ·rw[Bool.true_and];refine decide_eq_decide.2 ?_;rw[sE];simp;omega
  rw[a,b]
 rw[←e];exact h
theorem GJ(z:Int):aW 82 [ct z] (ct (-z)):=by
 refine cO (.cons (ju _) .nil) (ju _) (aT alD ?_);simp only[go_sem,d82,ae',ct,dL];refine use (qF _ _) ?_;simp only[go_sem,ct,dL];have:(if(!decide (z<0))=true then-((z.natAbs:Nat):Int)else(z.natAbs:Int))= -z:=by
  by_cases h:z<0
  ·simp[h];omega
  ·simp[h];omega
 rw[this]
theorem RK(z:Int):aW 96 [ct z] (ah (if z<0 then-1 else if z=0 then 0 else 1)):=by
 refine cO (.cons (ju _) .nil) (.int _ _) (aT alM ?_);have hl:=sE z.natAbs;by_cases h:z<0
 ·simp(disch:=omega)only[go_sem,d96,Fq,Fp,ct,dL,dt];simp[h]
 ·by_cases a:z=0
  ·subst a;have b:(aN (0:Int).natAbs).length=0:=by rw[show(0:Int).natAbs=0 from rfl,iV];rfl
   simp(disch:=omega)only[go_sem,d96,Fq,Fp,ct,dL,dt,df,b];simp
  ·have c:0<(aN z.natAbs).length:=hl.2 aa;simp(disch:=omega)only[go_sem,d96,Fq,Fp,ct,dL,df];simp[h,a]
theorem I6(x y:Int)(l:dW x.natAbs)(m:dW y.natAbs):aW 88 [ct x,ct y] (ct (x+y)):=by
 have q:=l.len;have r:=m.len;refine cO (.cons (ju _) (.cons (ju _) .nil)) (ju _) (aT alH ?_);have d:=I7 (aN x.natAbs) (aN y.natAbs) (gP _) (gP _) aa aa;have c:=KG (aN x.natAbs) (aN y.natAbs) (gP _) (gP _) (pS _) (pS _) aa aa;rw[fM,fM]at d c;have j:y.natAbs≤x.natAbs→aW 149 [mag (aN x.natAbs),mag (aN y.natAbs)] (mag (aN (x.natAbs-y.natAbs))):=fun h=>by
  have:=R3 (aN x.natAbs) (aN y.natAbs) (gP _) (gP _) (B6 h) (by rw[fM,fM];exact h) aa;rwa[fM,fM]at this
 have k:x.natAbs≤y.natAbs→aW 149 [mag (aN y.natAbs),mag (aN x.natAbs)] (mag (aN (y.natAbs-x.natAbs))):=fun h=>by
  have:=R3 (aN y.natAbs) (aN x.natAbs) (gP _) (gP _) (B6 h) (by rw[fM,fM];exact h) aa;rwa[fM,fM]at this
 have n:∀s:Bool,decide (x<0)=s→decide (y<0)=s→(if s then-((x.natAbs+y.natAbs:Nat):Int)else((x.natAbs+y.natAbs:Nat):Int))=x+y:=by
  intro s a b;cases s
  ·simp at a b⊢;omega
  ·simp at a b⊢;omega
 by_cases h:decide (x<0)=decide (y<0)
 ·generalize g:decide (x<0)=s at h
  have e:=n s g h.symm;simp only[go_sem,d88,Fm,Fl,Fk,ct,dL,g,←h,beq_self_eq_true];refine use d ?_;simp only[go_sem,true_and];refine use (qF _ _) ?_;simp only[go_sem,ct,dL];rw[e]
 ·have f:(decide (x<0)==decide (y<0))=false:=by simpa using h
  by_cases i:y.natAbs≤x.natAbs
  ·have o:¬nO x.natAbs y.natAbs<0:=by
    unfold nO;split
    ·omega
    ·split<;>omega
   simp(disch:=omega)only[go_sem,d88,Fm,Fl,Fk,ct,dL,f];refine use c ?_;simp(disch:=assumption)only[go_sem,df];refine use (j i) ?_;simp only[go_sem,true_and];refine use (qF _ _) ?_;simp only[go_sem,ct,dL];have e:(if decide (x<0)=true then-((x.natAbs-y.natAbs:Nat):Int)else((x.natAbs-y.natAbs:Nat):Int))=x+y:=by
    by_cases a:x<0<;>by_cases b:y<0<;>simp[a,b]at h⊢ <;>omega
   rw[e]
  ·have p:nO x.natAbs y.natAbs<0:=by
    unfold nO;rw[ak aa];decide
   simp(disch:=omega)only[go_sem,d88,Fm,Fl,Fk,ct,dL,f];refine use c ?_;simp(disch:=assumption)only[go_sem,dt];refine use (k aa) ?_;simp only[go_sem,true_and];refine use (qF _ _) ?_;simp only[go_sem,ct,dL];have e:(if decide (y<0)=true then-((y.natAbs-x.natAbs:Nat):Int)else((y.natAbs-x.natAbs:Nat):Int))=x+y:=by
    by_cases a:x<0<;>by_cases b:y<0<;>simp[a,b]at h⊢ <;>omega
   rw[e]
theorem xR(x y:Int)(d:dW x.natAbs)(f:dW y.natAbs):aW 89 [ct x,ct y] (ct (x*y)):=by
 have g:=d.len;have h:=f.len;refine cO (.cons (ju _) (.cons (ju _) .nil)) (ju _) (aT alI ?_);have a:=PN (aN x.natAbs) (aN y.natAbs) (gP _) (gP _) aa;rw[fM,fM]at a;simp only[go_sem,d89,afl,ct,dL];refine use a ?_;simp only[go_sem,true_and];refine use (qF _ _) ?_;simp only[go_sem,ct,dL];have e:(if(!(decide (x<0)==decide (y<0)))=true then-((x.natAbs*y.natAbs:Nat):Int)else((x.natAbs*y.natAbs:Nat):Int))=x*y:=by
  rw[fU];by_cases b:x<0<;>by_cases c:y<0<;>simp only[b,c,decide_true,decide_false,JW,JV,JU,JT,GM,nf,↓reduceIte,ie]
  ·rw[(aa:((x.natAbs:Nat):Int)= -x),(aa:((y.natAbs:Nat):Int)= -y),Int.neg_mul_neg]
  ·rw[(aa:((x.natAbs:Nat):Int)= -x),(aa:((y.natAbs:Nat):Int)=y),Int.neg_mul,Int.neg_neg]
  ·rw[(aa:((x.natAbs:Nat):Int)=x),(aa:((y.natAbs:Nat):Int)= -y),Int.mul_neg,Int.neg_neg]
  ·rw[(aa:((x.natAbs:Nat):Int)=x),(aa:((y.natAbs:Nat):Int)=y)]
 rw[e]
theorem arb(h:a<18446744073709551616):trim [a%4294967296,a/4294967296%4294967296]=aN a:=by
 rw[pT (.mk aa (.mk aa aA.nil))];congr 1;simp[val];omega
theorem tZ(n:Int)(h: -9223372036854775808≤n∧n<9223372036854775808):aW 36 [ah n] (ct n):=by
 refine cO (.cons (.int _ _) .nil) (ju _) (aT alc ?_)
 have key:∀(s:Bool) (k:Nat) (F:Fr) (H:af),k<18446744073709551616→(if s then-(k:Int)else k)=n→rd 11 F=.bool s→rd 2 F=.ptr 5 0→H.get 5=.cells [aD,.an] 0→H.get 6=.cells (bt [k%4294967296,k/4294967296%4294967296]) 0→
  oQ eP 5 (some 18) (kf eP 5 [ex 19 (cm 86 [(rd 11),(rd 18)]),bE (st 2 (rd 2) (rd 19))] (fq (bx .ret (gk [.cell 2 true 2] fun v _=>v=ct n)) (gk [.cell 2 true 2] fun v _=>v=ct n) .norm)) F H (some (.fn 87,[.slice 6 0 2 (.known 2)])):=by
  intro s k F H f e b c d a;refine jk (args2:=[mag [k%4294967296,k/4294967296%4294967296]]) (rV _ aB) a ⟨0,_,_,dj.2 rfl⟩ (.cons (rA a (by rw[af.aK,ak rfl]) rfl) .nil) ?_;rw[arb f];simp only[go_sem,b];refine use (qF _ _) ?_;simp only[go_sem,ct,dL,c,d];rw[e]
 by_cases i:n<0
 ·obtain⟨k,rfl⟩:∃k:Nat,n= -(k:Int):=⟨n.natAbs,aa⟩;have g:aC .u64 (-(aC .u64 (-(k:Int))))=(k:Int):=by rw[hJ,hJ];omega
  simp(disch:=omega)only[go_sem,d36,MQ,MP,MO,dt,g,n8,pD,qN];refine key true k _ _ aa rfl ?_ ?_ ?_ ?_
  all_goals simp only[go_sem]
  rfl
 ·obtain⟨k,rfl⟩:∃k:Nat,n=(k:Int):=⟨n.natAbs,aa⟩;simp(disch:=omega)only[go_sem,d36,MQ,MP,MO,df,bW,n8,pD,qN];refine key false k _ _ aa rfl ?_ ?_ ?_ ?_
  all_goals simp only[go_sem]
  rfl
def gL(t:Nat):Nat:=if h:t=0 then 0 else 1+gL (t/2)
termination_by t
decreasing_by omega
theorem y3:gL 0=0:=by rw[gL];simp
theorem vb(h:a≠0):gL a=1+gL (a/2):=by rw[gL];simp[h]
theorem TI{t:Nat}(k:Nat)(h:t<2^k):gL t≤k:=by
 induction k generalizing t with
 |zero=>have:t=0:=by simpa using h
        rw[this,y3];exact aE _
 |succ k a=>
  by_cases e:t=0
  ·rw[e,y3];exact bQ _
  ·rw[vb e];have:=a (t:=t/2) (by rw[cQ]at h;omega);omega
theorem J1:gL a=1↔a=1:=by
 constructor
 ·intro h;by_cases e:a=0
  ·rw[e,y3]at h;cases h
  ·rw[vb e]at h;by_cases b:a/2=0
   ·omega
   ·rw[vb b]at h;omega
 ·intro h;rw[h,vb aa];rw[show 1/2=0 from rfl,y3]
def pE(n:Nat):Nat:=if n=0 then 0 else 32*((aN n).length-1)+gL ((aN n).getD ((aN n).length-1) 0)
theorem Ii(h:a≠0):(aN a).getD ((aN a).length-1) 0≠0:=by
 have hl:=(sE a).2 h;have hi:(aN a).length-1<(aN a).length:=aa;intro e;refine pS a ?_;rw[List.getLast?_eq_getElem?,cn hi];rw[bX,cn hi]at e;exact congrArg some e
theorem PV{n:Nat}:pE n=1↔n=1:=by
 unfold pE;by_cases h:n=0
 ·simp[h]
 ·rw[aj h];have f:=Ii h;have hl:=(sE n).2 h;constructor
  ·intro e;have g:gL ((aN n).getD ((aN n).length-1) 0)≠0:=by rw[vb f];omega
   have b:(aN n).length-1=0:=aa;rw[b]at e;have c:=J1.1 (aa:gL ((aN n).getD 0 0)=1);have d:=fM n
   match a:aN n with
   |[]=>rw[a]at hl;exact absurd hl (Nat.lt_irrefl _)
   |[x]=>rw[a]at d c;simp[val]at d c;omega
   |_::_::_=>rw[a]at b;simp at b
  ·intro e;subst e;have a:aN 1=[1]:=by rw[o_ aa];simp[iV]
   rw[a];simp[J1.2 rfl]
theorem anf{n:Nat}:pE n=0↔n=0:=by
 unfold pE;by_cases h:n=0
 ·simp[h]
 ·rw[aj h];have a:gL ((aN n).getD ((aN n).length-1) 0)≠0:=by rw[vb (Ii h)];omega
  omega
theorem apV(n:Nat):rR (n:Int) (dU 1 (gK .u32))=((n/2:Nat):Int):=rfl
theorem JZ(z:Int)(o:dW z.natAbs):aW 84 [ct z] (ah (pE z.natAbs:Int)):=by
 have hl:=o.len;refine cO (.cons (ju _) .nil) (.int _ _) (aT alF ?_);by_cases a:z.natAbs=0
 ·have i:(aN z.natAbs).length=0:=by rw[a,iV];rfl
  simp(disch:=omega)only[go_sem,d84,M8,M7,M6,M5,ct,dL,dt];rw[pE,ak a];rfl
 ·have i:=(sE z.natAbs).2 a;have hi:(((aN z.natAbs).length:Int)-1).toNat=(aN z.natAbs).length-1:=aa;have n:=(gP z.natAbs).getD ((aN z.natAbs).length-1);have j:=TI 32 n;simp(disch:=omega)only[go_sem,d84,M8,M7,M6,M5,ct,dL,df,aH,jw,hi,hC];have l:pE z.natAbs=32*((aN z.natAbs).length-1)+gL ((aN z.natAbs).getD ((aN z.natAbs).length-1) 0):=by rw[pE,aj a]
  refine bH (fun k b h=>∃t m:Nat,rd 4 b=.int .u32 (t:Int)∧rd 3 b=ah (m:Int)∧m+gL t=pE z.natAbs∧gL t≤32∧k=t) ((aN z.natAbs).getD ((aN z.natAbs).length-1) 0) ⟨_,32*((aN z.natAbs).length-1),?_,?_,l.symm,j,rfl⟩ ?_
  ·simp only[go_sem]
  ·simp only[go_sem];congr 1;omega
  rintro t b h ⟨_,m,d,c,f,p,rfl⟩;simp only[afi,afh,afg];have q:pE z.natAbs≤32000032:=aa;by_cases g:t=0
  ·subst g;simp(disch:=omega)only[go_sem,c,d,df];rw[y3]at f;rw[←f];rfl
  ·have e:=vb g;simp(disch:=omega)only[go_sem,c,d,dt,aH,apV];refine⟨t/2,aa,t/2,m+1,?_,?_,aa,aa,rfl⟩
   ·simp only[go_sem]
   ·simp only[go_sem];congr 1
end Go.Proofs.YtddhncjmaahodaaGreatDoor
namespace Go.aF
section
variable {q top u2 mb v1 v2 nG W U V:Nat}
theorem zw(c:V=(v1*4294967296+v2)*W+nG)(b:U=(top*4294967296+u2)*W+mb)(g:mb<W)(f:q*V≤U):q*(v1*4294967296+v2)≤top*4294967296+u2:=by
 obtain⟨X,d⟩:∃X,X=v1*4294967296+v2:=⟨_,rfl⟩;obtain⟨T,hT⟩:∃T,T=top*4294967296+u2:=⟨_,rfl⟩;rw[←d]at c⊢;rw[←hT]at b⊢;have e:q*X*W≤q*V:=by
  rw[bT];exact fy _ aa
 have a:q*X*W<(T+1)*W:=by
  rw[cF,ga];omega
 have:=tH a;omega
theorem B2(b:V=(v1*4294967296+v2)*W+nG)(a:U=(top*4294967296+u2)*W+mb)(d:mb<W)(f:u2<4294967296)(e:0<v1)(c:q*V≤U):q≤top/v1:=by
 have h:=zw b a d c;rw[bD,←bT]at h;rw[tG e];omega
theorem B3{h r:Nat}(c:V=(v1*4294967296+v2)*W+nG)(b:U=(top*4294967296+u2)*W+mb)(f:mb<W)(d:q*V≤U)(e:top=h*v1+r)(j:r*4294967296+u2<h*v2):q<h:=by
 rcases mj q h with h1|h1
 ·exact h1
 ·have g:=zw c b f d;have a:h*(v1*4294967296+v2)≤q*(v1*4294967296+v2):=dn _ h1;rw[bD,←bT]at a;have i:top*4294967296=h*v1*4294967296+r*4294967296:=by rw[e,cF]
  omega
variable{a:Nat}{h:Nat}
theorem B4(d:V=(v1*4294967296+v2)*W+nG)(c:U=(top*4294967296+u2)*W+mb)(l:nG<W)(p:0<v1)(k:top=a*v1+h)(hh:a<4294967296)(o:a*v2≤h*4294967296+u2):(a-1)*V≤U:=by
 cases a with
 |zero=>simp
 |succ g=>
  have m:top*4294967296=(g+1)*v1*4294967296+h*4294967296:=by rw[k,cF]
  have b:(g+1)*(v1*4294967296+v2)≤top*4294967296+u2:=by
   rw[bD,←bT];omega
  have j:4294967296≤v1*4294967296+v2:=aa;obtain⟨X,f⟩:∃X,X=v1*4294967296+v2:=⟨_,rfl⟩;obtain⟨T,e⟩:∃T,T=top*4294967296+u2:=⟨_,rfl⟩;rw[←f]at d b j;rw[←e]at c b;have i:(g+1)*X*W≤T*W:=dn _ b;rw[cF g 1 X,ga,cF]at i;have n:g*nG≤X*W:=j_ aa (g8 l);show g*V≤U;rw[d,c,bD,←bT];omega
end
end Go.aF
namespace Go.Proofs.YtddhncjmaahodaaGreatDoor
open Go.au Go.aF
variable{h:Nat}
theorem kZ{a:Nat}(b:a≤h):dU a h=a:=by
 unfold dU;rw[jH b]
variable{a:Nat}
theorem Qm{y:Nat}(h:a<4294967296∧y<4294967296):g9 (hU .or) [.int .u32 (a:Int),.int .u32 (y:Int)]=some (.val (.int .u32 ((a|||y:Nat):Int))):=by
 show some (aY.val (.int .u32 (nN (pO .u32) (dM .u32) (Nat.lor (gQ (dM .u32) (a:Int)) (gQ (dM .u32) (y:Int))))))=_;rw[show gQ (dM .u32) (a:Int)=a from jV h.1,show gQ (dM .u32) (y:Int)=y from jV h.2];rfl
theorem ara(h:a≤31):2^a≤2147483648:=gl (n:=2) aa h
theorem anW{x:Nat}(d:h≤31)(c:a<2^h):a|||(x*2^h)%4294967296=a+(x*2^h)%4294967296:=by
 have e:(4294967296:Nat)=2^(32-h)*2^h:=by rw[←gw,(aa:32-h+h=32)]
 have b:(x*2^h)%4294967296=(x%2^(32-h))<<<h:=by
  rw[e,su,Nat.shiftLeft_eq]
 rw[b,Nat.or_comm,←Nat.shiftLeft_add_eq_or_of_lt c,i_]
theorem RA(a:List Nat)(s:Nat)(F:aA a)(z:s≤31)(X:a.length<4294967294)(H:af):
 c7 219 [mag a,ay (s:Int)] H fun v b=>v=.slice H.next 0 (a.length+1) (.known (a.length+1))∧b.next=H.next+1∧∃L,aA L∧L.length=a.length+1∧val L=val a*2^s∧L.getD a.length 0<2^s∧∀y,b.get y=if y=H.next then .cells (bt L) 0 else H.get y:=by
 refine aT akp ?_;simp(disch:=omega)only[go_sem,d219,Zp,Zo,Zn,aH,ir,vY];have Q:=ara z;have o:0<2^s:=fl aa
 refine bH (fun k c b=>∃(i:Nat) (L:List Nat),rd 0 c=mag a∧rd 1 c=ay (s:Int)∧rd 5 c=.slice H.next 0 (a.length+1) (.known (a.length+1))∧rd 6 c=ah (i:Int)∧k=a.length-i∧i≤a.length∧aA L∧L.length=a.length+1∧val L=val (a.take i)*2^s∧L.getD i 0<2^s∧(∀p,i<p→L.getD p 0=0)∧b.next=H.next+1∧∀y,b.get y=if y=H.next then .cells (bt L) 0 else H.get y) a.length
  ⟨0,aX (a.length+1) 0,?_,?_,?_,?_,rfl,bQ _,Qf _,aB,?_,?_,?_,rfl,?_⟩ ?_
 iterate 3 simp only[go_sem]
 ·simp only[go_sem];rfl
 ·rw[Sq];simp[val]
 ·simpa using o
 ·intro p _;simp only[bX,List.getElem?_replicate];split<;>rfl
 ·intro y;rw[af.bf];by_cases e:y=H.next
  ·rw[ak e.symm,ak e]
  ·rw[aj (fun h=>e h.symm),aj e]
 rintro k c b ⟨i,L,d,l,f,m,rfl,hi,j,hl,B,t,E,r,g⟩;have G:b.get H.next=.cells (bt L) 0:=by rw[g,ak rfl]
 simp only[Zm,Zl,Zk];by_cases J:i<a.length
 ·have P:=F.getD i;have T:(bt L).length=a.length+1:=by rw[hO,hl]
  have M:dU s (gK .u64)=s:=kZ (aa:s≤64);have C:a.getD i 0*2^s<4294967296*2^s:=od P o;have x:((a.getD i 0:Nat):Int)*((2^s:Nat):Int)=((a.getD i 0*2^s:Nat):Int):=by rw[fU]
  have u:=anW (x:=a.getD i 0) z t;have w:L.getD i 0|||(a.getD i 0*2^s)%4294967296<4294967296:=Nat.or_lt_two_pow (n:=32) aa aa
  have q:a.getD i 0*2^s/4294967296<2^s:=uU C;have O:=pW J;have D:(val (a.take i)+4294967296^i*a.getD i 0)*2^s=val (a.take i)*2^s+4294967296^i*(a.getD i 0*2^s):=by rw[cF,bT]
  generalize a.getD i 0*2^s=v at C x u w q D
  have N:=qW (l:=L) (p:=i) (v:=L.getD i 0|||v%4294967296) aa;have A:=qW (l:=L.set i (L.getD i 0|||v%4294967296)) (p:=i+1) (v:=v/4294967296) (by rw[gT];omega);rw[getD_set_ne aa,E _ (mm i),fc,cE]at A;have I:((i:Int)+1).toNat=i+1:=aa;have U:(bt (L.set i (L.getD i 0|||v%4294967296))).length=a.length+1:=by rw[hO,gT,hl]
  have V:=j.getD i;simp(disch:=omega)only[go_sem,d,l,f,m,dt,jw,b3,I,hC,M,x,bW,aH,qN,n8,pD,Qm,G,e9,mC];refine⟨a.length-(i+1),aa,i+1,(L.set i (L.getD i 0|||v%4294967296)).set (i+1) (v/4294967296),?_,?_,?_,?_,rfl,aa,pG (pG j w) aa,by rw[gT,gT,hl],?_,?_,?_,r,?_⟩
  iterate 3 simp only[go_sem,d,l,f]
  ·simp only[go_sem];congr 1
  ·rw[O,D];have R:4294967296^i*(L.getD i 0+v%4294967296)=4294967296^i*L.getD i 0+4294967296^i*(v%4294967296):=bD _ _ _;have S:4294967296^i*v=4294967296^i*(v%4294967296)+4294967296^(i+1)*(v/4294967296):=by
    rw[cQ,bT,←bD,Nat.mod_add_div]
   rw[u]at N A⊢;omega
  ·rw[bX,List.getElem?_set_self (by rw[gT];omega)];exact q
  ·intro p W;rw[getD_set_ne aa,getD_set_ne aa];exact E p aa
  ·intro y;rw[af.aK];by_cases e:y=H.next
   ·rw[ak e.symm,ak e,jV (a:=v/4294967296) aa]
   ·rw[aj (fun h=>e h.symm),aj e,af.aK,aj (fun h=>e h.symm),g,aj e]
 ·have K:i=a.length:=aa;subst K;simp(disch:=omega)only[go_sem,d,f,m,df];rw[b_ (aE _)]at B;exact⟨trivial,r,L,j,hl,B,t,g⟩
variable{u:Nat}{L:Nat}{n:IntKind}{q:Int}
theorem v8(b:0≤q∧q≤u∧u≤L):slice3 (j7 a) false true false [.slice h 0 u (.known L),.int n q]=some (.val (.slice h 0 q.toNat (.known L))):=by
 show qO h 0 u L a none (some (.int n q))=_;unfold qO;rw[sA (l:=0) (h:=q.toNat) rfl (mw n b.1) (bQ _) aa];show some (aY.val (.slice h (Bool.casesOn (motive:=fun _=>Nat) (bn L 0) (gv 0 (dQ 0 a)) 0) (ja q.toNat 0) (.known (ja L 0))))=_;have:(Bool.casesOn (motive:=fun _=>Nat) (bn L 0) (gv 0 (dQ 0 a)) 0)=0:=by
  cases bn L 0
  ·show 0+0*a=0;omega
  ·rfl
 rw[this];rfl
theorem Sc:∀l:List Nat,trim l=l.take (trim l).length
 |[]=>rfl
 |d::l=>by
  have a:=Sc l;unfold trim;split
  ·rfl
  ·simp only[cL,List.take_succ_cons];rw[←a]
theorem aq'(l f:List Nat)(b c:Nat)(o:l.length≤c)(hl:l.length<4294967296)(H:af)(g:H.get b=.cells (bt (l++f)) 0):
 c7 87 [.slice b 0 l.length (.known c)] H fun v d=>v=.slice b 0 (trim l).length (.known c)∧d=H:=by
 refine aT O_ ?_;simp only[d87,Nb,Na];simp only[go_sem];refine bH (fun k F d=>∃m,rd 0 F=.slice b 0 m (.known c)∧trim (l.take m)=trim l∧k=m∧m≤l.length∧d=H) l.length ⟨l.length,by simp only[go_sem],by rw[b_ (aE _)],rfl,aE _,rfl⟩ ?_;rintro m F d ⟨_,e,a,rfl,q,rfl⟩;simp only[M_,M9];cases m with
 |zero=>
  simp(disch:=omega)only[go_sem,e,df];refine⟨?_,trivial⟩;rw[←a];rfl
 |succ i=>
  have hi:(((i+1:Nat):Int)-1).toNat=i:=aa;have p:i<(l++f).length:=by simp;omega
  have j:(l++f).getD i 0=l.getD i 0:=by
   simp only[bX];rw[lJ aa]
  have n:l.take (i+1)=l.take i++[l.getD i 0]:=by
   rw[kQ aa,bX,cn aa];rfl
  rw[n]at a;by_cases h:l.getD i 0=0
  ·simp(disch:=omega)only[go_sem,e,dt,aH,b3,hi,g,hC,j,v8];refine⟨i,aa,i,?_,?_,rfl,aa,rfl⟩
   ·simp only[go_sem]
   ·rw[h,yy]at a;exact a
  ·simp(disch:=omega)only[go_sem,e,dt,df,aH,b3,hi,g,hC,j];rw[yw _ _ h]at a;rw[←a];simp;omega
variable{m:Fr}
theorem bV{v:V}(b:h≠a):rd a (put m (some h) v)=rd a m:=by rw[Ht,aj b]
theorem agD(a L:List Nat)(n j ae z c:Nat)(am:aA a)(bc:aA L)(hn:a.length=n)(ca:2≤n)(hj:j+n<z)(a6:L.length=z)(b2:z<4294967295)(q s:Nat)(l G:Nat)(ci:2147483648≤a.getD (n-1) 0)
 (bb:∀h r,s=h*a.getD (n-1) 0+r→r*4294967296+L.getD (j+n-2) 0<h*a.getD (n-2) 0→q<h) (hq:q<4294967296) (ht:s≤a.getD (n-1) 0*4294967296+4294967295) (a4:s=l*a.getD (n-1) 0+G) (ce:G<a.getD (n-1) 0) (a':q≤l)
 (F:Fr) (H:af) (R:X→Fr→af→Prop) (a3:rd 9 F=mag a) (ar:rd 10 F=.slice ae 0 z (.known c)) (aw:rd 11 F=ah (n:Int)) (a0:rd 14 F=ah (j:Int)) (a1:rd 16 F=ay (l:Int)) (a2:rd 17 F=ay (G:Int)) (M:H.get ae=.cells (bt L) 0)
 (N:∀I h r,(∀t,t<115→t≠16→t≠17→rd t I=rd t F)→rd 16 I=ay ((h:Nat):Int)→h<4294967296→q≤h→s=h*a.getD (n-1) 0+r→h*a.getD (n-2) 0≤r*4294967296+L.getD (j+n-2) 0→R (.exit 4) I H):
 bx (.loop (pc 146 6)) R F H:=by
 have bo:=am.getD (n-1);have al:=am.getD (n-2);have bs:=bc.getD (j+n-2);have b1:(bt L).length=z:=by rw[hO,a6]
 have D:((n:Int)-1).toNat=n-1:=aa;have U:((n:Int)-2).toNat=n-2:=aa;have V:((j:Int)+(n:Int)-2).toNat=j+n-2:=aa;have be:l≤4294967297:=by
  have:l*a.getD (n-1) 0<(4294967297+1)*a.getD (n-1) 0:=by
   rw[bK (4294967297+1),(aa:a.getD (n-1) 0*(4294967297+1)=a.getD (n-1) 0*4294967296+a.getD (n-1) 0*2)];omega
  have:=tH this;omega
 refine bH (fun k u H1=>∃h r,(∀t,t<115→t≠16→t≠17→rd t u=rd t F)∧rd 16 u=ay ((h:Nat):Int)∧rd 17 u=ay ((r:Nat):Int)∧s=h*a.getD (n-1) 0+r∧q≤h∧r<4294967296∧h≤l∧k=h∧H1=H) l ⟨l,G,fun _ _ _ _=>rfl,a1,a2,a4,a',aa,aE _,rfl,rfl⟩ ?_;rintro h u H1 ⟨_,r,i,o,x,T,a9,cf,bv,rfl,rfl⟩;have y:=(i 9 aa aa aa).trans a3;have J:=(i 10 aa aa aa).trans ar;have w:=(i 11 aa aa aa).trans aw;have K:=(i 14 aa aa aa).trans a0;simp only[WH,WG,WE,WB,Wq];generalize C:a.getD (n-1) 0=f at*
 generalize P:a.getD (n-2) 0=m at*
 generalize Q:L.getD (j+n-2) 0=Z at*
 have v:1≤h→s=(h-1)*f+(r+f):=fun b=>by
  obtain⟨g,rfl⟩:∃g,h=g+1:=⟨h-1,aa⟩;rw[T,cF,ga,qb];omega
 have ad:1≤h→4294967296≤r+f→h-1<4294967296∧(h-1)*m≤(r+f)*4294967296+Z:=fun b d=>by
  have e:=v b;have A:(h-1)*f<4294967296*f:=aa;have h5:=tH A;have h6:=Cg h5 al;omega
 have E:∀ {h:Nat},1≤h→((h:Int)-1)=((h-1:Nat):Int):=fun b=>aa
 have bd:∀ {ab:Fr} (t:Nat),(∀t,t<115→t≠16→t≠17→rd t ab=rd t u)→t<115→t≠16→t≠17→rd t ab=rd t F:=fun t b d e A=>(b t d e A).trans (i t d e A)
 by_cases hB:4294967296≤h
 ·have a8:q<h:=aa;by_cases O:4294967296≤r+f
  ·obtain⟨W,Y⟩:=ad aa O;simp(disch:=omega)only[go_sem,y,w,o,x,df,bW,aH,jw,D,hC,C];refine N _ (h-1) (r+f) (fun t b d e=>?_) ?_ W aa (v aa) Y
   ·simp(disch:=omega)only[bV];exact i t b d e
   ·simp only[go_sem];rw[E aa]
  ·simp(disch:=omega)only[go_sem,y,w,o,x,dt,df,bW,aH,jw,D,hC,C];refine⟨h-1,aa,h-1,r+f,fun t b d e=>?_,?_,?_,v aa,aa,aa,aa,rfl,rfl⟩
   ·simp(disch:=omega)only[bV];exact i t b d e
   ·simp only[go_sem];rw[E aa]
   ·simp only[go_sem];rfl
 ·have S:=Cg (aa:h<4294967296) al;have p:(h:Int)*(m:Int)=((h*m:Nat):Int):=by rw[fU]
  have ba:=bb h r T;by_cases B:r*4294967296+Z<h*m
  ·have a8:=ba B;by_cases O:4294967296≤r+f
   ·obtain⟨W,Y⟩:=ad aa O;generalize h*m=p2 at S p B
    simp(disch:=omega)only[go_sem,y,J,w,K,o,x,dt,df,bW,aH,jw,b3,D,U,V,M,hC,C,P,Q,p,Ad,zT];refine N _ (h-1) (r+f) (fun t b d e=>?_) ?_ W aa (v aa) Y
    ·simp(disch:=omega)only[bV];exact i t b d e
    ·simp only[go_sem];rw[E aa]
   ·generalize h*m=p2 at S p B
    simp(disch:=omega)only[go_sem,y,J,w,K,o,x,dt,bW,aH,jw,b3,D,U,V,M,hC,C,P,Q,p,Ad,zT];refine⟨h-1,aa,h-1,r+f,fun t b d e=>?_,?_,?_,v aa,aa,aa,aa,rfl,rfl⟩
    ·simp(disch:=omega)only[bV];exact i t b d e
    ·simp only[go_sem];rw[E aa]
    ·simp only[go_sem];rfl
  ·have a7:h*m≤r*4294967296+Z:=aa;generalize cb:h*m=p2 at S p B
   simp(disch:=omega)only[go_sem,y,J,w,K,o,x,dt,df,bW,aH,jw,b3,U,V,M,hC,P,Q,p,Ad,zT];refine N _ h r (fun t b d e=>?_) ?_ aa a9 T a7
   ·simp(disch:=omega)only[bV];exact i t b d e
   ·simp only[go_sem,o]
theorem AR{n:Nat}(h:n<18446744073709551616):g9 (hU .and) [ay (n:Int),ay 4294967295]=some (.val (ay ((n%4294967296:Nat):Int))):=by
 show some (aY.val (ay (nN (pO .u64) (dM .u64) (Nat.land (gQ (dM .u64) (n:Int)) (gQ (dM .u64) 4294967295)))))=_;rw[uA h,y2,show gQ (dM .u64) 4294967295=2^32-1 from rfl];exact congrArg (fun m:Nat=>some (aY.val (ay (m:Int)))) (Nat.and_two_pow_sub_one_eq_mod n 32)
theorem am0(d f:List Nat)(n j q o c h:Nat)(bd:aA d)(bc:aA f)(hn:d.length=n)(hj:j+n<o)(a2:f.length=o)(bo:o<4294967295)(hh:h<4294967296)
 (F:Fr) (H:af) (R:X→Fr→af→Prop) (am:rd 9 F=mag d) (Y:rd 10 F=.slice q 0 o (.known c)) (Z:rd 11 F=ah (n:Int)) (ab:rd 14 F=ah (j:Int)) (ac:rd 16 F=ay (h:Int)) (ad:rd 18 F=ay 0) (ae:rd 19 F=ay 0) (al:rd 20 F=ah 0) (a1:H.get q=.cells (bt f) 0)
 (hR:∀u v L a b,(∀t,t<151→t≠18→t≠19→t≠20→t≠21→t≠22→rd t u=rd t F)→rd 18 u=ay ((a:Nat):Int)→rd 19 u=ay ((b:Nat):Int)→a<4294967296→b≤1→L.length=o→aA L→(∀p,j+n≤p→L.getD p 0=f.getD p 0)→L.take j=f.take j→val L+4294967296^j*(h*val d)=val f+4294967296^(j+n)*(a+b)→
   (∀y,y≠q→v.get y=H.get y)→v.next=H.next→v.get q=.cells (bt L) 0→R (.exit 6) u v):
 bx (.loop (pc 146 9)) R F H:=by
 refine bH (fun k r x=>∃(i a b:Nat) (L:List Nat),(∀t,t<151→t≠18→t≠19→t≠20→t≠21→t≠22→rd t r=rd t F)∧rd 18 r=ay ((a:Nat):Int)∧rd 19 r=ay ((b:Nat):Int)∧rd 20 r=ah (i:Int)∧a<4294967296∧b≤1∧k=n-i∧i≤n∧L.length=o∧aA L∧(∀p,j+i≤p→L.getD p 0=f.getD p 0)∧L.take j=f.take j∧
  val L+4294967296^j*(h*val (d.take i))=val f+4294967296^(j+i)*(a+b)∧(∀y,y≠q→x.get y=H.get y)∧x.next=H.next∧x.get q=.cells (bt L) 0) n ⟨0,0,0,f,fun _ _ _ _ _ _ _=>rfl,ad,ae,al,aa,aa,rfl,bQ _,a2,bc,fun _ _=>rfl,rfl,by simp[val],fun _ _=>rfl,rfl,a1⟩ ?_
 rintro k r x ⟨i,a,b,L,m,J,K,M,a5,a4,rfl,hi,hl,G,V,Q,E,P,O,N⟩;have f9:=(m 9 aa aa aa aa aa aa).trans am;have ap:=(m 10 aa aa aa aa aa aa).trans Y;have I:=(m 11 aa aa aa aa aa aa).trans Z;have ar:=(m 14 aa aa aa aa aa aa).trans ab;have aw:=(m 16 aa aa aa aa aa aa).trans ac;simp only[WK,WJ,WI];by_cases be:i<n
 ·have ba:=bd.getD i;have b1:=G.getD (j+i);have bj:(bt L).length=o:=by rw[hO,hl]
  have i1:((i:Int)+(j:Int)).toNat=j+i:=aa;have T:=Cg hh ba;have U:(h:Int)*((d.getD i 0:Nat):Int)=((h*d.getD i 0:Nat):Int):=by rw[fU]
  have a':=pW (l:=d) (i:=i) aa;have S:4294967296^j*(h*(val (d.take i)+4294967296^i*d.getD i 0))=4294967296^j*(h*val (d.take i))+4294967296^(j+i)*(h*d.getD i 0):=by
   rw[bD,bD,gw,mo h,bT]
  generalize h*d.getD i 0=g at T U S
  have a7:(g:Int)+(a:Int)=((g+a:Nat):Int):=aa;obtain⟨s,a8,bv,b0⟩:∃s:Nat,((((L.getD (j+i) 0:Nat):Int)-(((g+a)%4294967296:Nat):Int))%18446744073709551616-(b:Int))%18446744073709551616=(s:Int)∧s<18446744073709551616∧L.getD (j+i) 0+4294967296*(s/4294967296%2)=s%4294967296+(g+a)%4294967296+b:=by
   refine⟨((((L.getD (j+i) 0:Nat):Int)-(((g+a)%4294967296:Nat):Int)-(b:Int))%18446744073709551616).toNat,?_,?_,?_⟩<;>omega
  have a9:=qW (l:=L) (p:=j+i) (v:=s%4294967296) aa;simp(disch:=omega)only[go_sem,f9,ap,I,ar,aw,J,K,M,dt,bW,aH,jw,b3,i1,N,hC,U,a7,qN,AR,hJ,a8,n8,pD,DO,e9,mC];refine⟨n-(i+1),aa,i+1,(g+a)/4294967296,s/4294967296%2,L.set (j+i) (s%4294967296),fun t z A B C l D=>?_,?_,?_,?_,aa,aa,rfl,aa,by rw[gT,hl],pG G aa,fun p T=>?_,?_,?_,fun y W=>?_,O,?_⟩
  ·simp(disch:=omega)only[bV];exact m t z A B C l D
  iterate 2 simp only[go_sem]
  ·simp only[go_sem];congr 1
  ·rw[getD_set_ne aa];exact V p aa
  ·rw[List.take_set_of_le aa];exact Q
  ·rw[a',S];have l:4294967296^(j+i)*(s%4294967296+(g+a)+b)=4294967296^(j+i)*(L.getD (j+i) 0+4294967296*((g+a)/4294967296+s/4294967296%2)):=congrArg _ aa;rw[show j+(i+1)=j+i+1 from rfl,cQ,bT];generalize(g+a)/4294967296+s/4294967296%2=w at l
   generalize s%4294967296=e at l a9
   simp only[bD]at l E⊢;omega
  ·rw[af.aK,aj (fun e=>W e.symm)];exact P y W
  ·rw[af.aK,ak rfl]
 ·have a6:i=n:=aa;subst a6;simp(disch:=omega)only[go_sem,I,M,df];rw[b_ aa]at E;refine hR _ _ L a b (fun t z A B C l D=>?_) ?_ ?_ a5 a4 hl G V Q E P O N
  ·simp(disch:=omega)only[bV];exact m t z A B C l D
  iterate 2 simp only[go_sem,J,K]
theorem Tb(a d:List Nat)(n j g f c:Nat)(a0:aA a)(aw:aA d)(hn:a.length=n)(hj:j+n<f)(Z:d.length=f)(a4:f<4294967295)
 (F:Fr) (H:af) (R:X→Fr→af→Prop) (T:rd 9 F=mag a) (N:rd 10 F=.slice g 0 f (.known c)) (O:rd 11 F=ah (n:Int)) (P:rd 14 F=ah (j:Int)) (Q:rd 18 F=ay 0) (S:rd 24 F=ah 0) (Y:H.get g=.cells (bt d) 0)
 (hR:∀q m L b,(∀t,t<212→t≠18→t≠24→rd t q=rd t F)→rd 18 q=ay ((b:Nat):Int)→b≤1→L.length=f→aA L→(∀p,j+n≤p→L.getD p 0=d.getD p 0)→L.take j=d.take j→val L+4294967296^(j+n)*b=val d+4294967296^j*val a→
   (∀y,y≠g→m.get y=H.get y)→m.next=H.next→m.get g=.cells (bt L) 0→R (.exit 8) q m):
 bx (.loop (pc 146 12)) R F H:=by
 refine bH (fun k l o=>∃(i b:Nat) (L:List Nat),(∀t,t<212→t≠18→t≠24→rd t l=rd t F)∧rd 18 l=ay ((b:Nat):Int)∧rd 24 l=ah (i:Int)∧b≤1∧k=n-i∧i≤n∧L.length=f∧aA L∧(∀p,j+i≤p→L.getD p 0=d.getD p 0)∧L.take j=d.take j∧
  val L+4294967296^(j+i)*b=val d+4294967296^j*val (a.take i)∧(∀y,y≠g→o.get y=H.get y)∧o.next=H.next∧o.get g=.cells (bt L) 0) n ⟨0,0,d,fun _ _ _ _=>rfl,Q,S,aa,rfl,bQ _,Z,aw,fun _ _=>rfl,rfl,by simp[val],fun _ _=>rfl,rfl,Y⟩ ?_
 rintro k l o ⟨i,b,L,h,C,D,ac,rfl,hi,hl,A,K,J,z,I,G,E⟩;have W:=(h 9 aa aa aa).trans T;have U:=(h 10 aa aa aa).trans N;have B:=(h 11 aa aa aa).trans O;have V:=(h 14 aa aa aa).trans P;simp only[Wi,Wh,Wg];by_cases a1:i<n
 ·have a9:=a0.getD i;have a8:=A.getD (j+i);have a3:(bt L).length=f:=by rw[hO,hl]
  have i1:((i:Int)+(j:Int)).toNat=j+i:=aa;have ap:=pW (l:=a) (i:=i) aa;have ae:4294967296^j*(val (a.take i)+4294967296^i*a.getD i 0)=4294967296^j*val (a.take i)+4294967296^(j+i)*a.getD i 0:=by
   rw[bD,gw,bT]
  obtain⟨s,hs⟩:∃s,s=b+(L.getD (j+i) 0+a.getD i 0):=⟨_,rfl⟩;have al:(b:Int)+(((L.getD (j+i) 0:Nat):Int)+((a.getD i 0:Nat):Int))=(s:Int):=aa;have am:=qW (l:=L) (p:=j+i) (v:=s%4294967296) aa;simp(disch:=omega)only[go_sem,W,U,B,V,C,D,dt,bW,aH,jw,b3,i1,E,hC,al,qN,n8,pD,e9,mC];refine⟨n-(i+1),aa,i+1,s/4294967296,L.set (j+i) (s%4294967296),fun t r u v=>?_,?_,?_,aa,rfl,aa,by rw[gT,hl],pG A aa,fun p hp=>?_,?_,?_,fun y M=>?_,G,?_⟩
  ·simp(disch:=omega)only[bV];exact h t r u v
  ·simp only[go_sem]
  ·simp only[go_sem];congr 1
  ·rw[getD_set_ne aa];exact K p aa
  ·rw[List.take_set_of_le aa];exact J
  ·rw[ap,ae];have x:4294967296^(j+i)*(s%4294967296+4294967296*(s/4294967296))=4294967296^(j+i)*(b+(L.getD (j+i) 0+a.getD i 0)):=congrArg _ aa;rw[show j+(i+1)=j+i+1 from rfl,cQ,bT];generalize s/4294967296=w at x
   generalize s%4294967296=e at x am
   simp only[bD]at x z⊢;omega
  ·rw[af.aK,aj (fun e=>M e.symm)];exact I y M
  ·rw[af.aK,ak rfl]
 ·have ad:i=n:=aa;subst ad;simp(disch:=omega)only[go_sem,B,D,df];rw[b_ aa]at z;refine hR _ _ L b (fun t r u v=>?_) ?_ ac hl A K J z I G E
  ·simp(disch:=omega)only[bV];exact h t r u v
  ·simp only[go_sem,C]
end Go.Proofs.YtddhncjmaahodaaGreatDoor
namespace Go.aF
theorem rW:∀ {l:List Nat}{k:Nat},(∀p,k≤p→l.getD p 0=0)→val l=val (l.take k)
 |[],_,_=>aB
 |d::l,0,h=>by
  have b:=h 0 (aE _);have a:=rW (l:=l) (k:=0) (fun p _=>by simpa using h (p+1) (bQ _));simp at b a;simp[val,b,a]
 |d::l,k+1,h=>by
  have a:=rW (l:=l) (k:=k) (fun p c=>by simpa using h (p+1) aa);simp only[List.take_succ_cons,val,a]
theorem AM:∀ {l:List Nat}{k:Nat},val l<4294967296^k→∀p,k≤p→l.getD p 0=0
 |[],_,_,p,_=>aB
 |d::l,0,h,p,_=>by
  simp[val]at h;have hl:val l=0:=aa;cases p with
  |zero=>simp;omega
  |succ p=>simpa using AM (l:=l) (k:=0) (by simpa using hl) p (bQ _)
 |d::l,k+1,h,0,a=>absurd a aa
 |d::l,k+1,h,p+1,a=>by
  have:val l<4294967296^k:=by
   simp only[val,cQ]at h;omega
  simpa using AM this p aa
theorem pV(l:List Nat)(j:Nat)(h:j≤l.length):val l=val (l.take j)+4294967296^j*val (l.drop j):=by
 have:=congrArg val (p9 j l);rw[fF,g6 h]at this;exact this.symm
theorem rE(l:List Nat)(j p:Nat):(l.drop j).getD p 0=l.getD (j+p) 0:=by
 simp[bX,q5]
theorem uK{l:List Nat}{i:Nat}(h:i<l.length):val (l.drop i)=l.getD i 0+4294967296*val (l.drop (i+1)):=by
 rw[lI h,bX,cn h];rfl
theorem vG{l:List Nat}{n:Nat}(e:2≤n)(f:n≤l.length)(d:∀p,n≤p→l.getD p 0=0):val l=(l.getD (n-1) 0*4294967296+l.getD (n-2) 0)*4294967296^(n-2)+val (l.take (n-2)):=by
 have c:val (l.drop n)=0:=by
  have:=rW (l:=l.drop n) (k:=0) (fun p _=>by rw[rE];exact d _ aa);simpa [val]using this
 have a:=qV (l:=l) (i:=n-2) aa;have b:=uK (l:=l) (i:=n-1) aa;rw[(aa:n-1+1=n)]at b;rw[(aa:n-2+1=n-1)]at a;rw[a,b,c,fc,cE,bK _ (4294967296^(n-2)),i_ (val _),i_ (l.getD (n-2) 0),bK 4294967296]
section
variable {T U V h k bu P Q IE SJ Dh asf q:Nat}
theorem aq4(d:T=Dh+Q*U)(e:IE+Q*(h*V)=T+P*k)(f:IE<P*(bu+1))(b:bu<k):U<h*V:=by
 have c:P*(bu+1)≤P*k:=fy _ b;have a:Q*U<Q*(h*V):=aa;exact Nat.lt_of_mul_lt_mul_left a
theorem anB(b:T=Dh+Q*U)(d:Dh<Q)(c:SJ+Q*(h*V)=T):h*V≤U:=by
 have a:Q*(h*V)<Q*(U+1):=by rw[bD,dF];omega
 have:=Nat.lt_of_mul_lt_mul_left a;omega
end
variable{d:List Nat}{a:Nat}{u:Nat}
theorem Re{b:List Nat}{V:Nat}(g:a≤d.length)(i:a≤b.length)(k:b.take a=d.take a)(o:val b+4294967296^a*(u*V)=val d)(j:u=val (d.drop a)/V)(f:0<V):val (b.drop a)<V:=by
 have l:=pV d a g;have c:=pV b a i;rw[k]at c;have h:4294967296^a*(val (b.drop a)+u*V)=4294967296^a*val (d.drop a):=by rw[bD];omega
 have m:=Nat.eq_of_mul_eq_mul_left (fl aa) h;have e:=jm (val (d.drop a)) V;have n:=eU (val (d.drop a)) f;rw[←j,bK]at e;omega
theorem I9(V Q h w:Nat):V*(Q*(h+4294967296*w))=Q*(h*V)+V*(Q*4294967296*w):=by
 rw[bD,bD,mo V Q h,bK V h,bT Q]
end Go.aF
namespace Go.Proofs.YtddhncjmaahodaaGreatDoor
open Go.au Go.aF
theorem RF(n:Nat):rR (n:Int) (dU 63 (gK .u64))=((n/9223372036854775808:Nat):Int):=rfl
theorem ao7(x u W r:Nat):x*(W*4294967296)+(r+W*u)=(x*4294967296+u)*W+r:=by
 rw[cF,bK W 4294967296,←bT,bK W u];omega
variable{h:Nat}{u:Nat}{L:Nat}
theorem al4{U V W d e f:Nat}(i:U=(h*4294967296+u)*W+L)(j:V=(d*4294967296+e)*W+f)(l:f<W)(g:U<V)(k:e<4294967296):h≤d:=by
 rcases mj d h with h1|h1
 ·have a:(d+1)*4294967296≤h*4294967296+u:=aa;have b:((d+1)*4294967296)*W≤(h*4294967296+u)*W:=dn _ a;have c:(d*4294967296+e+1)*W≤((d+1)*4294967296)*W:=dn _ aa;rw[cF (d*4294967296+e) 1 W,ga]at c;omega
 ·exact h1
set_option maxHeartbeats 4000000 in
theorem af2(a:List Nat)(n m u i c A:Nat)(y:aA a)(hn:a.length=n)(bb:2≤n)(hh:c=m+n+1)(a':c<4294967295)(fn:2147483648≤a.getD (n-1) 0)(x:¬u=i)(B:List Nat)(f5:aA B)(ed:B.length=c)(hA:val B=A)(es:val (B.drop (m+1))<val a)
 (F:Fr) (H:af) (R:X→Fr→af→Prop) (a2:rd 9 F=mag a) (Z:rd 10 F=.slice u 0 c (.known c)) (ab:rd 11 F=ah (n:Int)) (ac:rd 13 F=.slice i 0 (m+1) (.known (m+1))) (d4:rd 14 F=ah (m:Int)) (d7:H.get u=.cells (bt B) 0) (eb:H.get i=.cells (bt (aX (m+1) 0)) 0)
 (hR:∀F' W L b,(∀t,t<14→rd t F'=rd t F)→L.length=c→aA L→aA b→b.length=m+1→val L+val a*val b=A→val L<val a→W.get u=.cells (bt L) 0→W.get i=.cells (bt b) 0→W.next=H.next→R (.exit 2) F' W):
 bx (.loop (pc 146 15)) R F H:=by
 refine bH (fun k T Y=>∃(J:Nat) (L b:List Nat),(∀t,t<14→rd t T=rd t F)∧rd 14 T=ah ((J:Int)-1)∧k=J∧J≤m+1∧L.length=c∧aA L∧aA b∧b.length=m+1-J∧val L+val a*(4294967296^J*val b)=A∧val (L.drop J)<val a∧Y.get u=.cells (bt L) 0∧Y.get i=.cells (bt (aX J 0++b)) 0∧Y.next=H.next) (m+1)
  ⟨m+1,B,[],fun _ _=>rfl,by rw[d4];congr 1;omega,rfl,aE _,ed,f5,aA.nil,aB,by rw[show val []=0 from rfl,fc,fc,cE];exact hA,es,d7,by simpa using eb,rfl⟩ ?_
 rintro J T Y ⟨_,L,b,C,a3,rfl,ge,hl,g,ca,ho,hv,a8,ad,dl,ba⟩;have f9:=(C 9 aa).trans a2;have ce:=(C 10 aa).trans Z;have cf:=(C 11 aa).trans ab;have gc:=(C 13 aa).trans ac;simp only[Wl,Wk,Wj];cases J with
 |zero=>
  simp(disch:=omega)only[go_sem,a3,dt];refine hR _ _ L b (fun t f=>?_) hl g ca aa (by simpa using hv) (by simpa using a8) ad (by simpa using dl) ba;simp(disch:=omega)only[bV];exact C t f
 |succ j=>
  have a4:rd 14 T=ah (j:Int):=by rw[a3];congr 1;omega
  clear a3;have em:val a<4294967296^n:=by rw[←hn];exact gS y
  have hz:∀p,n≤p→(L.drop (j+1)).getD p 0=0:=AM (qe a8 em);have b1:∀p,j+n+1≤p→L.getD p 0=0:=fun p I=>by
   have:=hz (p-(j+1)) aa;rw[rE]at this;rwa[(aa:j+1+(p-(j+1))=p)]at this
  have O:=vG (l:=a) bb aa (fun p I=>by rw[bX,kO aa];rfl);have dT:val (a.take (n-2))<4294967296^(n-2):=by
   have:=gS (y.take (n-2));rwa[g6 aa]at this
  have hg:j+n<L.length:=aa;have N:=vG (l:=L.drop j) (n:=n+1) aa (by rw[gZ];omega) (fun p I=>by rw[rE];exact b1 _ aa);have bj:=pW (l:=L.drop j) (i:=n-2) (by rw[gZ];omega);rw[(aa:n+1-1=n),(aa:n+1-2=n-1),rE,rE]at N;rw[(aa:n-2+1=n-1),rE]at bj;have bv:val ((L.drop j).take (n-2))<4294967296^(n-2):=by
   have:=gS ((g.drop j).take (n-2));rwa[g6 (by rw[gZ];omega)]at this
  have e0:4294967296^(n-1)=4294967296^(n-2)*4294967296:=by rw[(aa:n-1=n-2+1),cQ]
  rw[bj,e0]at N;have K:j+(n-1)=j+n-1:=aa;have e2:j+(n-2)=j+n-2:=aa;rw[K,e2]at N;obtain⟨l,bo⟩:∃l,l=L.getD (j+n) 0*4294967296+L.getD (j+n-1) 0:=⟨_,rfl⟩;have ae:val (L.drop j)=(l*4294967296+L.getD (j+n-2) 0)*4294967296^(n-2)+val ((L.drop j).take (n-2)):=by
   rw[N,bo];exact ao7 _ _ _ _
  have fi:L.getD (j+n) 0≤a.getD (n-1) 0:=by
   have h1:=vG (l:=L.drop (j+1)) bb (by rw[gZ];omega) hz;rw[rE,rE,(aa:j+1+(n-1)=j+n)]at h1;exact al4 h1 O dT a8 (y.getD _)
  have e':val (L.drop j)/val a<4294967296:=by
   rw[q8 aa,uK aa];have:=g.getD j;omega
  have hq:val (L.drop j)/val a*val a≤val (L.drop j):=wM _ _;have dd:=B2 O ae bv (g.getD _) aa hq;have cp:0<a.getD (n-1) 0:=aa;obtain⟨M,E⟩:∃M,M=l/a.getD (n-1) 0:=⟨_,rfl⟩;obtain⟨S,ap⟩:∃S,S=l%a.getD (n-1) 0:=⟨_,rfl⟩;have ds:l=M*a.getD (n-1) 0+S:=by rw[E,ap,bK];exact(jm _ _).symm
  have fa:S<a.getD (n-1) 0:=by rw[ap];exact eU _ cp
  have f6:=g.getD (j+n);have f7:=g.getD (j+n-1);have f8:=y.getD (n-1);have hp:M≤l:=by rw[E];exact jn _ _
  have hb:(bt L).length=c:=by rw[hO,hl]
  have i1:((j:Int)+(n:Int)).toNat=j+n:=aa;have i2:((j:Int)+(n:Int)-1).toNat=j+n-1:=aa;have i3:((n:Int)-1).toNat=n-1:=aa;have hi:((a.getD (n-1) 0:Nat):Int)≠0:=aa;rw[bo]at E ap;simp(disch:=omega)only[go_sem,f9,ce,cf,a4,df,bW,aH,jw,b3,i1,i2,i3,ad,hC,Ad,zT,jG,mB,uG,yq,←E,←ap];have dv:l≤a.getD (n-1) 0*4294967296+4294967295:=by
   have:=dn 4294967296 fi;omega
  rw[←bo]at E;refine agD a L n j u c c y g hn bb aa hl a' (val (L.drop j)/val a) l M S fn (fun h r K e2=>B3 O ae bv hq K e2) e' dv ds fa (by rw[E];exact dd) _ _ _ ?_ ?_ ?_ ?_ ?_ ?_ ad ?_
  iterate 6 simp only[go_sem,f9,ce,cf,a4]
  intro cd h r g2 sL a9 hj du c';have G:∀t,t<14→rd t cd=rd t F:=fun t f=>by
   rw[g2 t aa aa aa];simp(disch:=omega)only[bV];exact C t f
  have rC:rd 14 cd=ah (j:Int):=by
   rw[g2 14 aa aa aa];simp(disch:=omega)only[bV];exact a4
  have dC:=B4 O ae dT cp du a9 c';have cM:=(G 9 aa).trans a2;have ci:=(G 10 aa).trans Z;have oC:=(G 11 aa).trans ab;have sK:=(G 13 aa).trans ac;clear g2 ds dv du c' dd ae N bj bv O;rw[fA];simp(disch:=omega)only[go_sem];refine am0 a L n j u c c h y g hn aa hl a' a9 _ _ _ ?_ ?_ ?_ ?_ ?_ ?_ ?_ ?_ ad ?_
  iterate 8 simp only[go_sem,cM,ci,oC,rC,sL]
  intro aw H3 d v q g3 B1 OW g0 gt Q b' bs db fp d' c0 cs;have z:∀t,t<14→rd t aw=rd t F:=fun t f=>by
   rw[g3 t aa aa aa aa aa aa];simp(disch:=omega)only[bV];exact G t f
  have ud:rd 14 aw=ah (j:Int):=by
   rw[g3 14 aa aa aa aa aa aa];simp(disch:=omega)only[bV];exact rC
  have BZ:rd 16 aw=ay (h:Int):=by
   rw[g3 16 aa aa aa aa aa aa];simp(disch:=omega)only[bV];exact sL
  have nW:=(z 9 aa).trans a2;have b2:=(z 10 aa).trans Z;have qD:=(z 11 aa).trans ab;have zu:=(z 13 aa).trans ac;have dp:H3.get i=.cells (bt (aX (j+1) 0++b)) 0:=(d' i (fun e=>x e.symm)).trans dl;have P:d.getD (j+n) 0=L.getD (j+n) 0:=bs _ (aE _);have hd:(bt d).length=c:=by rw[hO,Q]
  have hf:(bt (aX (j+1) 0++b)).length=m+1:=by rw[hO];simp;omega
  clear g3 G rC sL cM ci oC sK;rw[fA];have f':=g.getD (j+n);by_cases eQ:L.getD (j+n) 0<v+q
  ·obtain⟨s,be,dq,bd,fd⟩:∃s:Nat,((((L.getD (j+n) 0:Nat):Int)-(v:Int))%18446744073709551616-(q:Int))%18446744073709551616=(s:Int)∧s<18446744073709551616∧s%4294967296+(v+q)=L.getD (j+n) 0+4294967296∧s/9223372036854775808=1:=by
    refine⟨((((L.getD (j+n) 0:Nat):Int)-(v:Int)-(q:Int))%18446744073709551616).toNat,?_,?_,?_,?_⟩<;>omega
   have bi:=qW (l:=d) (p:=j+n) (v:=s%4294967296) aa;rw[P]at bi;have hP:4294967296^(j+n)*(s%4294967296)+4294967296^(j+n)*(v+q)=4294967296^(j+n)*L.getD (j+n) 0+4294967296^(j+n)*4294967296:=by
    rw[←bD,←bD,bd]
   have g':val (d.set (j+n) (s%4294967296))+4294967296^j*(h*val a)=val L+4294967296^(j+n)*4294967296:=aa;have al:=gS (g.take j);rw[g6 aa]at al;have d5:=pV L j aa;have fs:val d<4294967296^(j+n)*(L.getD (j+n) 0+1):=by
    have K:=rW (l:=d) (k:=j+n+1) (fun p I=>by rw[bs p aa];exact b1 p I);rw[K,pW aa,P,bD,dF];have:=gS (b'.take (j+n));rw[g6 aa]at this;omega
   have et:=aq4 d5 fp fs eQ;have c1:0<val a:=aa;have hk:val (L.drop j)/val a<h:=(q8 c1).2 et;have hm:h-1≤val (L.drop j)/val a:=(tG c1).2 dC;have bc:h-1=val (L.drop j)/val a:=aa;have ex:c=d.length:=Q.symm;have fw:((h:Int)-1)=((h-1:Nat):Int):=aa;simp(disch:=omega)only[go_sem,b2,qD,ud,BZ,B1,OW,dt,bW,aH,b3,i1,cs,P,hC,hJ,be,RF,fd,n8,pD,e9,mC,fw];have eh:(d.set (j+n) (s%4294967296)).length=c:=by rw[gT,Q]
   refine Tb a (d.set (j+n) (s%4294967296)) n j u c c y (pG b' aa) hn aa eh a' _ _ _ ?_ ?_ ?_ ?_ ?_ ?_ ?_ ?_
   iterate 6 simp only[go_sem,nW,b2,qD,ud]
   ·rw[af.aK,ak rfl]
   intro U H4 o w g4 _ g1 da d1 dE ev hr ea d9 d8;have fx:= ‹rd 18 U=_›;have V:∀t,t<14→rd t U=rd t F:=fun t f=>by
    rw[g4 t aa aa aa];simp(disch:=omega)only[bV];exact z t f
   have f3:rd 14 U=ah (j:Int):=by
    rw[g4 14 aa aa aa];simp(disch:=omega)only[bV];exact ud
   have f4:rd 16 U=ay ((h-1:Nat):Int):=by
    rw[g4 16 aa aa aa];simp only[go_sem]
   have f0:=(V 10 aa).trans Z;have f1:=(V 11 aa).trans ab;have f2:=(V 13 aa).trans ac;have e1:H4.get i=.cells (bt (aX (j+1) 0++b)) 0:=by
    rw[ea i (fun e=>x e.symm),af.aK,aj x];exact dp
   have a7:o.getD (j+n) 0=s%4294967296:=by
    rw[dE _ (aE _),bX,List.getElem?_set_self aa];rfl
   have hQ:4294967296^j*(h*val a)=4294967296^j*((h-1)*val a)+4294967296^j*val a:=by
    rw[←bD,←oe,(aa:(h-1).succ=h)]
   have ha:4294967296^j*((h-1)*val a)≤val L:=by
    have:=fy (4294967296^j) dC;omega
   have gs:val o+4294967296^(j+n)*w+4294967296^j*((h-1)*val a)=val L+4294967296^(j+n)*4294967296:=aa;have hc:s%4294967296+w=4294967296:=by
    refine oa fun hc=>?_
    have hs:=qW (l:=o) (p:=j+n) (v:=s%4294967296+w) aa;rw[a7,bD]at hs;have jL:=rW (l:=o.set (j+n) (s%4294967296+w)) (k:=j+n+1) (fun p I=>by
     rw[getD_set_ne aa,dE p aa,getD_set_ne aa,bs p aa];exact b1 p I)
    have eq:=gS ((pG d1 (p:=j+n) (v:=s%4294967296+w) aa).take (j+n+1));rw[←jL,g6 (by rw[gT];omega),cQ]at eq;omega
   have fg:=qW (l:=o) (p:=j+n) (v:=0) aa;rw[a7,fc,cE]at fg;have gn:4294967296^(j+n)*(s%4294967296)+4294967296^(j+n)*w=4294967296^(j+n)*4294967296:=by rw[←bD,hc]
   have D:val (o.set (j+n) 0)+4294967296^j*((h-1)*val a)=val L:=aa;have hw:aC .u32 (((s%4294967296:Nat):Int)+(w:Int))=((0:Nat):Int):=by rw[n8];omega
   have he:(bt o).length=c:=by rw[hO,da]
   rw[fA];simp(disch:=omega)only[go_sem,f0,f1,f2,f3,f4,fx,gC,aH,b3,i1,d8,a7,hC,hw,e9,mC,x,e1,HO];refine⟨j,aa,j,o.set (j+n) 0,(h-1)::b,fun t f=>?_,?_,rfl,aa,by rw[gT,da],pG d1 aa,.mk aa ca,by simp;omega,?_,Re aa (by rw[gT];omega) (by rw[List.take_set_of_le aa,ev,List.take_set_of_le aa];exact db) D bc aa,?_,?_,by rw[jh,jh,d9,jh,c0,ba]⟩
   ·simp(disch:=omega)only[bV];exact V t f
   ·simp only[go_sem]
   ·have a1:val ((h-1)::b)=(h-1)+4294967296*val b:=rfl;rw[a1,I9,←jl,D,←hv,cQ]
   ·rw[af.aK,aj (fun e=>x e.symm),af.aK,ak rfl]
   ·rw[af.aK,ak rfl]
  ·obtain⟨s,be,dq,bd⟩:∃s:Nat,((L.getD (j+n) 0:Nat):Int)-(v:Int)-(q:Int)=(s:Int)∧s<4294967296∧L.getD (j+n) 0=s+(v+q):=⟨L.getD (j+n) 0-(v+q),aa,aa,aa⟩;have bi:=qW (l:=d) (p:=j+n) (v:=s) aa;rw[P,bd,bD]at bi;have D:val (d.set (j+n) s)+4294967296^j*(h*val a)=val L:=aa;have bc:h=val (L.drop j)/val a:=by
    have e:=pV L j aa;have al:=gS (g.take j);rw[g6 aa]at al;have:=anB e al D;have:=(tG (aa:0<val a)).2 this;omega
   have ex:c=d.length:=Q.symm;simp(disch:=omega)only[go_sem,b2,qD,zu,ud,BZ,B1,OW,df,bW,gC,aH,b3,i1,cs,P,hC,be,RF,e9,mC,x,dp,HO];refine⟨j,aa,j,d.set (j+n) s,h::b,fun t f=>?_,?_,rfl,aa,by rw[gT,Q],pG b' dq,.mk a9 ca,by simp;omega,?_,Re aa (by rw[gT];omega) (by rw[List.take_set_of_le aa];exact db) D bc aa,?_,?_,by rw[jh,jh,c0,ba]⟩
   ·simp(disch:=omega)only[bV];exact z t f
   ·simp only[go_sem]
   ·have a1:val (h::b)=h+4294967296*val b:=rfl;rw[a1,I9,←jl,D,←hv,cQ]
   ·rw[af.aK,aj (fun e=>x e.symm),af.aK,ak rfl]
   ·rw[af.aK,ak rfl]
end Go.Proofs.YtddhncjmaahodaaGreatDoor
namespace Go.aF
def shr(s:Nat):List Nat→List Nat
 |[]=>[]
 |[d]=>[d/2^s]
 |d::e::l=>(d/2^s+(e%2^s)*2^(32-s))::shr s (e::l)
theorem ta(s:Nat):∀l,(shr s l).length=l.length
 |[]=>rfl
 |[_]=>rfl
 |d::e::l=>by simp[shr,ta s (e::l)]
variable{a:Nat}
theorem two32(b:a≤31):(4294967296:Nat)=2^a*2^(32-a):=by
 rw[←gw,(aa:a+(32-a)=32)]
theorem yd(b:a≤31):∀l,val (shr a l)=val l/2^a
 |[]=>by simp[shr,val]
 |[d]=>by simp[shr,val]
 |d::e::l=>by
  have i:=yd b (e::l);have h:0<2^a:=fl aa;have f:val (e::l)%2^a=e%2^a:=by
   show(e+4294967296*val l)%2^a=e%2^a;rw[two32 b,bT,Nat.add_mul_mod_self_left]
  have g:val (d::e::l)/2^a=d/2^a+2^(32-a)*val (e::l):=by
   show(d+4294967296*val (e::l))/2^a=_;rw[two32 b,bT,Nat.add_mul_div_left _ _ h]
  have c:=jm (val (e::l)) (2^a);rw[f]at c;rw[g];show d/2^a+(e%2^a)*2^(32-a)+4294967296*val (shr a (e::l))=_;rw[i,two32 b,tJ (2^a),bK (2^a*(val (e::l)/2^a)),bK (e%2^a),jl,←bD,i_ (e%2^a),c]
theorem v5(b:a≤31):∀ {l},aA l→aA (shr a l)
 |[],h=>h
 |[d],h=>by
  have:=h.cons.1;exact .mk (eY (jn _ _) this) aA.nil
 |d::e::l,h=>by
  refine .mk ?_ (v5 b h.cons.2);have c:0<2^a:=fl aa;have g:=h.cons.1;have i:d/2^a<2^(32-a):=by
   rw[q8 c,bK,←two32 b];exact g
  have f:(e%2^a+1)*2^(32-a)≤2^a*2^(32-a):=dn _ (eU _ c);rw[←two32 b,cF,ga]at f;omega
theorem yc{s:Nat}:∀ {l:List Nat}{i:Nat},i<l.length→(shr s l).getD i 0=l.getD i 0/2^s+(l.getD (i+1) 0%2^s)*2^(32-s)
 |[],_,h=>absurd h (ke _)
 |[d],0,_=>by simp[shr]
 |[_],_+1,h=>by simp at h
 |d::e::l,0,_=>by simp[shr]
 |d::e::l,i+1,h=>by
  have a:=yc (s:=s) (l:=e::l) (i:=i) (by simpa using h);simpa [shr]using a
end Go.aF
namespace Go.Proofs.YtddhncjmaahodaaGreatDoor
open Go.au Go.aF
theorem mS(x k:Nat):rR (x:Int) k=((x/2^k:Nat):Int):=rfl
variable{d:List Nat}{a:Nat}
theorem F5{v:Nat}(h:a<d.length):(d.set a v).getD a 0=v:=by
 rw[bX,List.getElem?_set_self h];rfl
theorem anX{x e:Nat}(b:a≤31)(g:x<4294967296):x/2^a|||(e*2^(32-a))%4294967296=x/2^a+(e%2^a)*2^(32-a):=by
 have f:0<2^a:=fl aa;have c:x/2^a<2^(32-a):=by
  rw[q8 f,bK,←two32 b];exact g
 have d:(e*2^(32-a))%4294967296=(e%2^a)<<<(32-a):=by
  rw[two32 b,su,Nat.shiftLeft_eq]
 rw[d,Nat.or_comm,←Nat.shiftLeft_add_eq_or_of_lt c,i_,Nat.shiftLeft_eq]
theorem ap0(l Y:List Nat)(s d c:Nat)(Z:aA Y)(O:∀p,p<l.length→Y.getD p 0=l.getD p 0)(U:s≤31)(a7:l.length≤Y.length)(ba:Y.length<4294967295)
 (F:Fr) (H:af) (R:X→Fr→af→Prop) (ad:rd 8 F=ay (s:Int)) (ab:rd 25 F=.slice d 0 l.length (.known c)) (ac:rd 26 F=ah 0) (ar:H.get d=.cells (bt Y) 0)
 (hR:∀L r M,(∀t,t<260→t≠26→rd t L=rd t F)→M.length=Y.length→aA M→(∀p,p<l.length→M.getD p 0=(shr s l).getD p 0)→(∀y,y≠d→r.get y=H.get y)→r.next=H.next→r.get d=.cells (bt M) 0→R (.exit 10) L r):
 bx (.loop (pc 146 18)) R F H:=by
 refine bH (fun k B u=>∃(i:Nat) (M:List Nat),(∀t,t<260→t≠26→rd t B=rd t F)∧rd 26 B=ah (i:Int)∧k=l.length-i∧i≤l.length∧M.length=Y.length∧aA M∧(∀p,p<i→M.getD p 0=(shr s l).getD p 0)∧(∀p,i≤p→p<l.length→M.getD p 0=l.getD p 0)∧(∀y,y≠d→u.get y=H.get y)∧u.next=H.next∧u.get d=.cells (bt M) 0) l.length
  ⟨0,Y,fun _ _ _=>rfl,ac,rfl,bQ _,rfl,Z,fun p f=>absurd f (ke _),fun p _ f=>O p f,fun _ _=>rfl,rfl,ar⟩ ?_
 rintro k B u ⟨i,M,j,D,rfl,hi,hl,o,K,J,I,G,E⟩;have N:=(j 8 aa aa).trans ad;have C:=(j 25 aa aa).trans ab;simp only[Wo,Wn,Wm];have f:0<2^s:=fl aa;by_cases Q:i<l.length
 ·have A:=o.getD i;have a8:(bt M).length=Y.length:=by rw[hO,hl]
  have i1:((i:Int)+1).toNat=i+1:=aa;have W:dU s (gK .u32)=s:=kZ (aa:s≤32);have a5:dU (32-s) (gK .u64)=32-s:=kZ (aa:32-s≤64);have ap:(32:Int)-(s:Int)=((32-s:Nat):Int):=aa;have m:=yc (s:=s) Q;rw[←J i (aE _) Q]at m;have P:M.getD i 0/2^s≤M.getD i 0:=jn _ _;by_cases hj:i+1<l.length
  ·have he:=o.getD (i+1);rw[←J (i+1) aa hj]at m;have z:=anX (x:=M.getD i 0) (e:=M.getD (i+1) 0) U A;rw[←m]at z;have S:((M.getD (i+1) 0:Nat):Int)*((2^(32-s):Nat):Int)=((M.getD (i+1) 0*2^(32-s):Nat):Int):=by rw[fU]
   have a3:M.getD (i+1) 0*2^(32-s)≤4294967295*4294967296:=j_ aa (cy (gl (n:=2) aa (aa:32-s≤32)) (aE _));generalize M.getD (i+1) 0*2^(32-s)=v at z S a3
   obtain⟨w,V⟩:∃w,w=M.getD i 0/2^s:=⟨_,rfl⟩;rw[←V]at z P;have g1:(M.set i w).getD i 0=w:=F5 aa;have g2:(M.set i w).getD (i+1) 0=M.getD (i+1) 0:=getD_set_ne aa;have a9:(bt (M.set i w)).length=Y.length:=by rw[hO,gT,hl]
   have a':(M.set i w).length=Y.length:=by rw[gT,hl]
   have a2:=(v5 U (l:=l) (fun x A=>by
    obtain⟨q,T,rfl⟩:=List.getElem_of_mem A;have a:=Z.getD q;rw[O q T,bX,cn T]at a;exact a)).getD i
   simp(disch:=omega)only[go_sem,N,C,D,dt,aH,b3,i1,E,hC,W,a5,mS,←V,ap,g1,g2,S,bW,n8,pD,Qm,z,e9,mC,List.set_set];refine⟨l.length-(i+1),aa,i+1,M.set i ((shr s l).getD i 0),fun t a b=>?_,?_,rfl,aa,by rw[gT,hl],pG o a2,fun p f=>?_,fun p a b=>?_,fun y g=>?_,G,?_⟩
   ·simp(disch:=omega)only[bV];exact j t a b
   ·simp only[go_sem];rfl
   ·by_cases e:p=i
    ·rw[e,F5 aa]
    ·rw[getD_set_ne (fun h=>e h.symm)];exact K p aa
   ·rw[getD_set_ne aa];exact J p aa b
   ·rw[af.aK,aj (fun e=>g e.symm),af.aK,aj (fun e=>g e.symm)];exact I y g
   ·rw[af.aK,ak rfl]
  ·have h0:l.getD (i+1) 0=0:=by rw[bX,kO aa];rfl
   rw[h0,Nat.zero_mod,jb,cE]at m;simp(disch:=omega)only[go_sem,N,C,D,dt,df,aH,b3,E,hC,W,mS,e9,mC];refine⟨l.length-(i+1),aa,i+1,M.set i (M.getD i 0/2^s),fun t a b=>?_,?_,rfl,aa,by rw[gT,hl],pG o (eY P A),fun p f=>?_,fun p a b=>?_,fun y g=>?_,G,?_⟩
   ·simp(disch:=omega)only[bV];exact j t a b
   ·simp only[go_sem];rfl
   ·by_cases e:p=i
    ·rw[e,F5 aa,m]
    ·rw[getD_set_ne (fun h=>e h.symm)];exact K p aa
   ·omega
   ·rw[af.aK,aj (fun e=>g e.symm)];exact I y g
   ·rw[af.aK,ak rfl]
 ·have a0:i=l.length:=aa;subst a0;simp(disch:=omega)only[go_sem,C,D,df];refine hR _ _ M (fun t a b=>?_) hl o K I G E;simp(disch:=omega)only[bV];exact j t a b
theorem afN(l:List Nat)(n:Nat):(bt l).take n=bt (l.take n):=by simp[bt,List.map_take]
variable{c:af}{H:af}{h:Nat}
theorem ahq{b:Cap}{l:List Nat}(g:c.get a=.cells (bt d) 0)(i:H.get a=.none)(k:l.length=h)(f:d.take h=l):bR c H (.slice a 0 h b) (mag l):=by
 subst k;have j:l.length≤d.length:=by
  have:=congrArg ku f;rw[dD]at this;omega
 cases l with
 |nil=>exact .eW a 0 b
 |cons e l=>
  refine .row (m:=(e::l).length) (cs:=bt (e::l)) ?_ (lf _) i (cD.refl _);rw[fJ g,c_,e4,ak (by rw[hO];exact j),afN,f]
theorem anA(b:List Nat)(E:aA b)(G:0<b.length)(J:b.length<4294967295)(C:0<b.getD (b.length-1) 0)(F:Fr)(H:af)(R:X→Fr→af→Prop)(u:rd 1 F=mag b)(w:rd 8 F=ay 0)
 (x:∀e s,(∀t,t<49→t≠8→rd t e=rd t F)→rd 8 e=ay ((s:Nat):Int)→s≤31→2147483648≤b.getD (b.length-1) 0*2^s→b.getD (b.length-1) 0*2^s<4294967296→R (.exit 0) e H):
 bx (.loop (pc 146 1)) R F H:=by
 have D:=E.getD (b.length-1);refine bH (fun k f n=>∃s:Nat,(∀t,t<49→t≠8→rd t f=rd t F)∧rd 8 f=ay ((s:Nat):Int)∧k=32-s∧s≤31∧b.getD (b.length-1) 0*2^s<4294967296∧n=H) 32 ⟨0,fun _ _ _=>rfl,w,rfl,aa,by rw[nK,dF];exact D,rfl⟩ ?_;rintro k f n ⟨s,j,g,rfl,B,m,rfl⟩;have o:=(j 1 aa aa).trans u;simp only[Wf,We];have r:((b.length:Int)-1).toNat=b.length-1:=aa;have p:dU s (gK .u32)=s:=kZ (aa:s≤32);have c:((b.getD (b.length-1) 0:Nat):Int)*((2^s:Nat):Int)=((b.getD (b.length-1) 0*2^s:Nat):Int):=by rw[fU]
 have q:b.getD (b.length-1) 0*2^(s+1)=b.getD (b.length-1) 0*2^s*2:=by rw[cQ,bT]
 have z:2^s≤b.getD (b.length-1) 0*2^s:=by
  have:=dn (2^s) C;simpa using this
 by_cases l:b.getD (b.length-1) 0*2^s<2147483648
 ·have I:s<31:=(Nat.pow_lt_pow_iff_right (a:=2) aa).1 (eY z (show _<2^31 from l));obtain⟨v,d⟩:∃v,v=b.getD (b.length-1) 0*2^s:=⟨_,rfl⟩;rw[←d]at m l c q;simp(disch:=omega)only[go_sem,o,g,jw,r,hC,p,c,gC,bW,aH,dt];refine⟨32-(s+1),aa,s+1,fun t h i=>?_,?_,rfl,aa,by rw[q];omega,rfl⟩
  ·simp(disch:=omega)only[bV];exact j t h i
  ·simp only[go_sem];rfl
 ·obtain⟨v,d⟩:∃v,v=b.getD (b.length-1) 0*2^s:=⟨_,rfl⟩;rw[←d]at c;have A:=m;have y:=l;rw[←d]at A y;simp(disch:=omega)only[go_sem,o,g,jw,r,hC,p,c,gC,aH,df];refine x _ s (fun t h i=>?_) ?_ B aa m
  ·simp(disch:=omega)only[bV];exact j t h i
  ·simp only[go_sem,g]
end Go.Proofs.YtddhncjmaahodaaGreatDoor
namespace Go.aF
variable{h:Nat}{u:Nat}
theorem afR(b:4294967296^u≤h):u<(aN h).length:=by
 have:=gS (gP h);rw[fM]at this;exact(Nat.pow_lt_pow_iff_right (a:=4294967296) aa).1 (eY b this)
variable{d:List Nat}{a:Nat}
theorem mV(b:d.length=a+1):val d=val (d.take a)+4294967296^a*d.getD a 0:=by
 have h:=qV (l:=d) (i:=a) aa;rw[jB aa]at h;simpa [val]using h
variable{L:Nat}
theorem zO(o:(aN h).length=L+1)(q:u≤31)(i:2147483648≤(aN h).getD L 0*2^u)(d:(aN h).getD L 0*2^u<4294967296):
 (aN (h*2^u)).length=L+1∧2147483648≤(aN (h*2^u)).getD L 0:=by
 have e:=mV o;rw[fM]at e;have j:=gS ((gP h).take L);rw[g6 aa]at j;obtain⟨t,r⟩:∃t,t=(aN h).getD L 0:=⟨_,rfl⟩;obtain⟨lo,m⟩:∃lo,lo=val ((aN h).take L):=⟨_,rfl⟩;rw[←r]at i d e;rw[←m]at j e;have p:0<2^u:=fl aa;have x:0<4294967296^L:=fl aa;have l:(t+1)*2^u≤4294967296:=by
  rw[two32 q]at d⊢;rw[bK (2^u)]at d⊢;exact dn _ (tH d)
 have v:h*2^u<4294967296^(L+1):=by
  have a:h<4294967296^L*(t+1):=by rw[bD,dF];omega
  have b:h*2^u<4294967296^L*(t+1)*2^u:=od a p;rw[bT]at b;have c:=fy (4294967296^L) l;rw[cQ];omega
 have w:4294967296^L*(t*2^u)≤h*2^u:=by
  rw[←bT];exact dn _ aa
 have A:4294967296^L*2147483648≤h*2^u:=cy (fy _ i) w;have y:=vh v;have z:L<(aN (h*2^u)).length:=afR aa;have hl:(aN (h*2^u)).length=L+1:=aa;refine⟨hl,?_⟩;have g:=mV hl;rw[fM]at g;have n:=gS ((gP (h*2^u)).take L);rw[g6 aa]at n;obtain⟨f,s⟩:∃f,f=(aN (h*2^u)).getD L 0:=⟨_,rfl⟩;rw[←s]at g⊢;refine jC fun k=>?_
 have:4294967296^L*(f+1)≤4294967296^L*2147483648:=fy _ k;rw[bD,dF]at this;omega
theorem ahb{n:Nat}(o:val d=a*2^u)(hl:d.length=L+n+2)(l:(aN a).length=L+n+1)(b:(aN h).length=n+1):val (d.drop (L+1))<h*2^u:=by
 have k:0<2^u:=fl aa;have e:=pV d (L+1) aa;have c:=gS (gP a);rw[fM,l]at c;have f:=(pS h).pos (by intro g;rw[g]at b;cases b);rw[fM,b,qb]at f;have m:a*2^u<4294967296^(L+1)*(4294967296^n*2^u):=by
  rw[←bT,←gw,(aa:L+1+n=L+n+1)];exact od c k
 have i:4294967296^(L+1)*val (d.drop (L+1))<4294967296^(L+1)*(4294967296^n*2^u):=aa;have j:=Nat.lt_of_mul_lt_mul_left i;exact eG j (dn _ f)
theorem aoG{Q:Nat}(f:0<h)(b:L+h*2^u*Q=a*2^u)(hl:L<h*2^u):Q=a/h∧L/2^u=a%h:=by
 have e:0<2^u:=fl aa;have c:a*2^u/(h*2^u)=Q:=by
  rw[←b,i_,bK (h*2^u),i_,Nat.add_mul_div_right _ _ aa,m4 hl,dK]
 have d:a*2^u%(h*2^u)=L:=by
  rw[←b,Nat.add_mul_mod_self_left,jV hl]
 rw[Nat.mul_div_mul_right _ _ e]at c;rw[su]at d;exact⟨c.symm,by rw[←d,uW _ e]⟩
end Go.aF
namespace Go.Proofs.YtddhncjmaahodaaGreatDoor
open Go.au Go.aF
variable{c:af}{H:af}{a:Nat}{h:Nat}{d:List Nat}
theorem aho{g fI f:Nat}{e:Cap}(i:c.get a=.cells (bt d) g)(m:c.get g=.bB fI f)(l:f≤a)(j:H.get a=.none)(n:d.length=h):bR c H (.slice a 0 h e) (mag d):=by
 subst n;cases d with
 |nil=>exact .eW a 0 e
 |cons b d=>
  refine .row (m:=(b::d).length) (cs:=bt (b::d)) ?_ (lf _) j (cD.refl _);have k:c.cells? a=some (bt (b::d)):=by
   unfold af.cells?;rw[i];show aQ (c.fR a g) _=_;rw[gq.2 (.inr ⟨fI,f,m,l⟩)];rfl
  unfold af.cS;rw[k];show cq (eC (bt (b::d)) 0) (b::d).length=some (bt (b::d));rw[c_,e4,ak (by rw[hO];exact aE _),b_ (by rw[hO];exact aE _)]
theorem kN:(af.zero a).get h=.none:=af.e7 _ _
theorem afS(h:(aN a).length=1):aN a=[a]∧a<4294967296:=by
 have b:=fM a;have c:=gP a
 match e:aN a,h with
 |[d],_=>
  rw[e]at b c;simp[val]at b;subst b;exact⟨rfl,c.cons.1⟩
theorem US(l:List Nat)(hl:l.length≤2000000)(b:Nat)(H:af)(c:H.get b=.cells [] 0)(m:b<H.next)(Q:Option (V×af)→Prop)
 (h:∀v a,bR a (af.zero a.next) v (mag l)→Q (some (v,a))):Q (fH 1 4 [.slice b 0 0 (.known 0),mag l] H):=by
 cases l with
 |nil=>
  exact h _ _ (.eW b 0 _)
 |cons d l=>
  have i:kX (mag (d::l))=some (l.length+1):=rfl;have f:dS H 1 (l.length+1) (mag (d::l))=some (bt (d::l)):=by
   show cq (bt (d::l)) (dQ (l.length+1) 1)=_;rw[e4,ak (by rw[hO];show(l.length+1)*1≤l.length+1;omega),b_ (by rw[hO];show l.length+1≤(l.length+1)*1;omega)]
  have e:fH 1 4 [.slice b 0 0 (.known 0),mag (d::l)] H=lz H 1 (l.length+1) (bt (d::l)):=by
   show ao (kX (mag (d::l))) (fun n=>ao (dS H 1 n (mag (d::l))) fun j=>jX 1 4 (.slice b 0 0 (.known 0)) n j H)=_;rw[i];show ao (dS H 1 (l.length+1) (mag (d::l))) _=_;rw[f];show aQ (je (0+(l.length+1)) 4) (Bool.casesOn (motive:=fun _=>Option (V×af)) (bM (0+(l.length+1)) 0) (ao (H.cS b 0 (0*1)) fun k=>lz H 1 (0+(l.length+1)) (cW k (bt (d::l)))) (ao (H.e5 b (0+0*1) (bt (d::l))) fun H=>some (V.slice b 0 (0+(l.length+1)) (.known 0),H)))=_;have g:je (0+(l.length+1)) 4=true:=by
    simp at hl;unfold je;rw[jH aa,jH (show dQ (0+(l.length+1)) 4≤1099511627776 from by show(0+(l.length+1))*4≤_;omega)];rfl
   rw[g,show bM (0+(l.length+1)) 0=false from by rw[dK];rfl,fJ c];simp only[jb,c_,zD,zR,Cm,B5,dK]
  rw[e];refine h _ _ (aho (g:=H.next+1) (fI:=H.next) (f:=H.next) ?_ ?_ (aE _) kN aB)
  ·rw[af.bf,af.bf];rw[aj (by show¬(H.next+1=H.next);omega),ak rfl]
  ·rw[af.bf,ak (show(H.push (.cells (bt (d::l)) (Nat.succ H.next))).next=H.next+1 from rfl)]
set_option maxHeartbeats 4000000 in
theorem Np(x y:Nat)(E:0<y)(dd:(aN x).length≤2000000)(ds:(aN y).length≤2000000):aW 146 [mag (aN x),mag (aN y)] (.az [mag (aN (x/y)),mag (aN (x%y))]):=by
 refine pJ (R:=fun v=>v=_) (.cons (jZ _) (.cons (jZ _) .nil)) ?_;refine aT ajR ?_
 have k:∀(a b:V) (H:af),bR H (af.zero H.next) a (mag (aN (x/y)))→bR H (af.zero H.next) b (mag (aN (x%y)))→∃v,bR H (af.zero H.next) (.az [a,b]) v∧bz v∧v=.az [mag (aN (x/y)),mag (aN (x%y))]:=fun a b H u h2=>
  ⟨_,.az (.cons u (.cons h2 .nil)),.az (.cons (jZ _) (.cons (jZ _) .nil)),rfl⟩
 have P:=KG (aN x) (aN y) (gP _) (gP _) (pS _) (pS _) aa aa;rw[fM,fM]at P;have ly:0<(aN y).length:=(sE y).2 aa;simp only[d146,WD,WC,WA,Wz,Wy,Wx,Ww,Wv,Wu,Wt,Ws,Wr,Wp];simp only[go_sem];refine use P ?_;by_cases d:x<y
 ·have hc:nO x y<0:=by unfold nO;rw[ak d];decide
  simp(disch:=assumption)only[go_sem,dt];refine US (aN x) dd 5 _ ?_ ?_ (fun r=>gj _ _ _ r) fun v j hv=>?_
  ·simp only[go_sem]
  ·exact mm 5
  simp only[go_sem];rw[m4 d,jV d,iV]at k;rw[m4 d,jV d,iV];exact k _ _ _ .fK hv
 have bo:y≤x:=aa;have hc:¬nO x y<0:=by
  unfold nO;rw[aj d];split<;>omega
 simp(disch:=assumption)only[go_sem,df];by_cases u:(aN y).length=1
 ·obtain⟨N,am⟩:=afS u;have Q:=RQ (aN x) y (gP _) ⟨E,am⟩ aa;rw[fM]at Q;have bs:dJ none 1 [mag [y],ah 0]=some (.val (.cY [V.int .u32 (y:Int)] 0)):=jw (l:=[y]) ⟨ag,aB⟩;simp(disch:=omega)only[go_sem,N,bs,gH,Int.natCast_one,decide_true];rw[←N];refine use Q ?_;have hr:x%y<4294967296:=qe (eU _ E) am;simp only[go_sem];refine jk (b:=5) (cs:=bt [x%y]) (args2:=[mag [x%y]]) (rV [x%y] aB) ?_ ⟨0,_,_,dj.2 rfl⟩ (.cons (rA (l:=[x%y]) ?_ ?_ rfl) .nil) ?_
  ·simp only[go_sem];rfl
  ·simp only[go_sem];rfl
  ·rw[af.aK,ak rfl]
  simp only[go_sem];have et:trim [x%y]=aN (x%y):=by
   rw[pT (.mk hr aA.nil)];simp[val]
  rw[et];exact k _ _ _ (.same _) (.same _)
 ·obtain⟨n,W⟩:∃n,(aN y).length=n+2:=⟨(aN y).length-2,aa⟩;obtain⟨m,B⟩:∃m,(aN x).length=m+(n+1)+1:=by
   have:=B6 bo;exact⟨(aN x).length-(n+2),aa⟩
  have ht:0<(aN y).getD ((aN y).length-1) 0:=ld (Ii aa);simp(disch:=omega)only[go_sem,df];refine anA (aN y) (gP _) ly aa ht _ _ _ ?_ ?_ ?_
  iterate 2 simp only[go_sem]
  intro F s w t f Y Z;have f0:rd 0 F=mag (aN x):=by rw[w 0 aa aa];simp only[go_sem]
  have f1:rd 1 F=mag (aN y):=by rw[w 1 aa aa];simp only[go_sem]
  clear w;rw[(aa:(aN y).length-1=n+1)]at Y Z;obtain⟨D,cs⟩:=zO W f Y Z;rw[fA];simp only[go_sem,f1,t];refine(RA (aN y) s (gP _) f aa _).mono ?_;rintro _ j ⟨rfl,cd,c,c',b2,ad,-,a9⟩;have R:j.get 5=.cells (bt c) 0:=(a9 5).trans (ak rfl);rw[fM]at ad;have a0:trim c=aN (y*2^s):=by rw[pT c',ad]
  simp only[go_sem];refine jk (b:=5) (cs:=bt c) (args2:=[mag c]) (rV c aa) R ⟨0,_,_,dj.2 rfl⟩ (.cons (rA (l:=c) R ?_ b2) .nil) ?_
  ·rw[af.aK,ak rfl]
  rw[a0];simp only[go_sem,f0,t];refine(RA (aN x) s (gP _) f aa _).mono ?_;rintro _ I ⟨rfl,X,K,c2,A,C,-,O⟩;have ce:j.next=6:=cd
  have ab:(j.set 5 .none).next=6:=by rw[jh];exact ce
  rw[ab]at O X;have bi:I.get 6=.cells (bt K) 0:=by rw[O,ak rfl]
  rw[fM]at C;rw[B]at A;have im:((m+(n+1)+1+1:Nat):Int)-((n+1+1:Nat):Int)-1=(m:Int):=aa;rw[ab,B];simp(disch:=omega)only[go_sem,D,aH,im,ir,vY];have o:I.next=7:=X
  refine af2 (aN (y*2^s)) (n+1+1) m 6 7 (m+(n+1)+1+1) (x*2^s) (gP _) D aa aa aa (by rw[qb];exact cs) ag K c2 A C ?_ _ _ _ ?_ ?_ ?_ ?_ ?_ ?_ ?_ ?_
  ·rw[fM];exact ahb C A B W
  iterate 5 simp only[go_sem,o]
  ·rw[af.bf,aj (by rw[o];decide)];exact bi
  ·rw[af.bf,ak o]
  intro i H3 L h g b1 ap db ca ae al S cf dl;rw[fM]at ae al;have a6:rd 8 i=ay (s:Int):=by rw[g 8 aa];simp only[go_sem,t]
  have a3:rd 10 i=.slice 6 0 (m+(n+1)+1+1) (.known (m+(n+1)+1+1)):=by rw[g 10 aa];simp only[go_sem]
  have a4:rd 11 i=ah ((n+1+1:Nat):Int):=by rw[g 11 aa];simp only[go_sem]
  have a5:rd 13 i=.slice 7 0 (m+1) (.known (m+1)):=by
   rw[g 13 aa];simp only[go_sem,o]
  clear g;rw[fA];obtain⟨hQ,hR⟩:=aoG E ae al;have bv:((n+1+1:Nat):Int).toNat=n+1+1:=bJ _;have b0:(L.take (n+1+1)).length=n+1+1:=by rw[dD,b1];omega
  simp(disch:=omega)only[go_sem,a3,a4,v8,bv];have ac:=aq' (L.take (n+1+1)) (L.drop (n+1+1)) 6 (m+(n+1)+1+1) aa aa H3 (by rw[p9];exact S);rw[b0]at ac;refine ac.mono ?_;rintro _ _ ⟨rfl,rfl⟩;obtain⟨l,hl⟩:∃l,l=trim (L.take (n+1+1)):=⟨_,rfl⟩;rw[←hl];have b':=Sb (L.take (n+1+1));rw[←hl]at b';have cb:l=L.take l.length:=by
   have:=Sc (L.take (n+1+1));rw[←hl,List.take_take]at this;rw[(aa:min l.length (n+1+1)=l.length)]at this;exact this
  have cp:val l=val L:=by
   rw[hl,yC];refine(rW (AM ?_)).symm;have:=gS (gP (y*2^s));rw[fM,D]at this;omega
  simp only[go_sem];refine ap0 l L s 6 (m+(n+1)+1+1) ap (fun p q=>?_) f aa aa _ _ _ ?_ ?_ ?_ S ?_
  ·rw[cb];simp only[bX];rw[wH q]
  iterate 3 simp only[go_sem,a6]
  intro G J M z dk dq ba a' dp bj;have sK:rd 13 G=.slice 7 0 (m+1) (.known (m+1)):=by rw[z 13 aa aa];simp only[go_sem,a5]
  have a7:rd 25 G=.slice 6 0 l.length (.known (m+(n+1)+1+1)):=by rw[z 25 aa aa];simp only[go_sem]
  clear z;have bb:M.take l.length=shr s l:=by
   refine si fun p=>?_
   by_cases q:p<l.length
   ·have e:=ba p q;simp only[bX]at e;rw[wH q];rw[cn aa,cn (by rw[ta];omega)]at e⊢;exact congrArg some e
   ·rw[kO (by rw[dD];omega),kO (by rw[ta];omega)]
  have U:J.get 7=.cells (bt h) 0:=by rw[a' 7 ag];exact cf
  rw[fA];simp only[go_sem,sK];refine jk (b:=7) (cs:=bt h) (args2:=[mag h]) (rV h aa) U ⟨0,_,_,dj.2 rfl⟩ (.cons (rA (l:=h) U (by rw[af.aK,ak rfl]) ca) .nil) ?_;simp only[go_sem,a7];have T:(J.set 7 .none).get 6=.cells (bt M) 0:=by rw[af.aK,aj ag];exact bj
  refine jk (b:=6) (cs:=bt M) (args2:=[mag (shr s l)]) (rV (shr s l) (by rw[ta];omega)) T ⟨0,_,_,dj.2 rfl⟩ (.cons (ahq (l:=shr s l) T (by rw[af.aK,ak rfl]) (ta s l) bb) .nil) ?_;simp only[go_sem];have da:aA l:=by rw[hl];exact yx (ap.take _)
  rw[pT db,pT (v5 f da),yd f,cp,hQ,hR];exact k _ _ _ (.same _) (.same _)
end Go.Proofs.YtddhncjmaahodaaGreatDoor
