/- Towards the law TreeRegions: lemmas on the evaluator of the model's code, plain laws of numbers, walks of the program's functions, the card. No conditions. -/
import Derived.Calls
import Derived.Orders
import Derived.Laws.Cells
import Derived.Laws.IdiomCopy
import Derived.Laws.Strings
import Derived.Laws.Concat
import Derived.Laws.World
import Derived.Laws.NewBlocks
import Derived.Laws.IdiomStrings
import Derived.KernelRfl
import Derived.Lib.Bytealg
import Derived.Laws.StructEq
import Derived.Laws.NewFold
import Derived.OrdersIn
import Derived.RangeFuncLeaves
set_option linter.all false
noncomputable section
open Array renaming ext'→rI,getElem?_eq_some_iff→uX,getElem?_push→uY
open Bool renaming and_eq_true→cz,eq_false_iff→mB,false_eq_true→kj,not_false→gS,not_true→dZ,or_eq_true→pE
open Classical renaming byContradiction→m6
open Go.Instr renaming sliceBounds→qA,sureAddr→u6
open Go.IntKind renaming bits→oy,signed→oz,wrap→qC
open Go.Result renaming andThen_ok→dS
open Go.Sem renaming run_bind→c8,run_pure→fC
open Int renaming natCast_mul→e7,natCast_nonneg→s7,tdiv→kq,tmod→lP,toNat_natCast→bN
open List renaming append_assoc→eG,eq_nil_of_length_eq_zero→nI,getElem?_append_left→k3,getElem?_append_right→pI,getElem?_drop→pJ,getElem?_eq_getElem→cH,getElem?_eq_none→m9,getElem?_eq_some_iff→fo,getElem?_take_of_lt→u9,length_append→bt,length_cons→di,length_drop→gF,length_map→lQ,length_nil→lR,length_take→ep,mem_cons→gL,mem_filter→nJ,mem_of_getElem?→er,pairwise_cons→rM,range→lS,take_left→oD,take_succ_eq_append_getElem→jZ
open Nat renaming add_assoc→jq,add_comm→iy,add_mul→cZ,add_zero→cO,add→fW,beq→bK,ble→b8,eq_zero_or_pos→qH,le_add_right→qI,le_of_lt→hD,le_of_not_lt→ja,le_refl→aR,le_trans→cI,lt_of_lt_of_le→ei,lt_of_not_le→rQ,lt_or_ge→k4,lt_trans→oG,min_eq_left→oH,mod_eq_of_lt→jr,mod_lt→eK,mul_assoc→cg,mul_le_mul_right→dz,mul→dW,not_lt_zero→pN,strongRecOn→jb,sub_self→lV,sub→iz,succ_mul→pO,zero_add→fB,zero_le→ck,zero_mul→jE
open Option renaming none→aW
open UInt8 renaming ofNat→gG,toNat_inj→vl
namespace Go
theorem aa{p:Prop}(h:p:=by omega):p:=h
theorem aj{p:Prop}(h:p:=by decide):p:=h
theorem aJ{p:Prop}(h:p:=by simp):p:=h
theorem bp{p:Prop}[Decidable p](h:¬p):decide p=false:=decide_eq_false h
theorem bw{p:Prop}[Decidable p](h:p):decide p=true:=decide_eq_true h
theorem au{c:Prop}{h:Decidable c}(n:¬c){a:Sort _}{t e:a}:ite c t e=e:=if_neg n
theorem ay{c:Prop}{h:Decidable c}(n:c){a:Sort _}{t e:a}:ite c t e=t:=if_pos n
end Go
namespace Go.aE
inductive bM (α:Type) where
 |nil
 |node (l:bM α) (v:α) (r:bM α)
def JU(f:Nat):Nat→List Bool:=
 Nat.rec (motive:=fun _=>Nat→List Bool) (fun _=>[]) (fun _ a n=>Nat.rec (motive:=fun _=>List Bool) [] (fun m _=>(bK (Nat.mod m 2) 1)::a (Nat.div m 2)) n) f
def path(n:Nat):List Bool:=JU n n
def KK:List Bool→Nat
 |[]=>0
 |b::p=>2*KK p+(if b then 1 else 0)+1
theorem adf(f:Nat):∀n,n≤f→KK (JU f n)=n:=by
 induction f with
 |zero=>intro n h;have:n=0:=aa;subst this;rfl
 |succ f a=>
  intro n h;cases n with
  |zero=>rfl
  |succ m=>
   show 2*KK (JU f (m/2))+(if bK (m%2) 1 then 1 else 0)+1=m+1;rw[a (m/2) aa];rcases Nat.mod_two_eq_zero_or_one m with h|h<;>simp[h,bK]<;>omega
variable{a:Nat}{g:Nat}
theorem aoy(h:path a=path g):a=g:=by
 have b:=adf a a (aR _);have c:=adf g g (aR _);unfold path at h;rw[←b,←c,h]
variable{h:Type}
def bM.kP(d:h)(p:List Bool):bM h→h:=
 List.rec (motive:=fun _=>bM h→h) (fun t=>bM.casesOn t d (fun _ v _=>v))
  (fun b _ a t=>bM.casesOn t d (fun l _ r=>Bool.casesOn b (a l) (a r))) p
def bM.wJ(d x:h)(p:List Bool):bM h→bM h:=
 List.rec (motive:=fun _=>bM h→bM h) (fun t=>bM.casesOn t (.node .nil x .nil) (fun l _ r=>.node l x r))
  (fun b _ a t=>bM.casesOn t (Bool.casesOn b (.node (a .nil) d .nil) (.node .nil d (a .nil)))
    (fun l v r=>Bool.casesOn b (.node (a l) v r) (.node l v (a r)))) p
theorem bM.vX(d:h)(p:List Bool):bM.kP d p .nil=d:=by cases p<;>rfl
theorem bM.ain(d x:h)(p:List Bool):∀t,bM.kP d p (bM.wJ d x p t)=x:=by
 induction p with
 |nil=>intro t;cases t<;>rfl
 |cons b p a=>intro t;cases t<;>cases b<;>exact a _
theorem bM.aio(d x:h)(p:List Bool):∀(q:List Bool) t,q≠p→bM.kP d q (bM.wJ d x p t)=bM.kP d q t:=by
 induction p with
 |nil=>
  intro q t e;cases q with
  |nil=>exact absurd rfl e
  |cons b q=>
   cases t with
   |nil=>cases b<;>exact bM.vX d q
   |node l v r=>cases b<;>rfl
 |cons c p f=>
  intro q t e;cases q with
  |nil=>cases t<;>cases c<;>rfl
  |cons b q=>
   cases t with
   |nil=>
    cases b<;>cases c
    ·exact(f q .nil (fun a=>e (by rw[a]))).trans (bM.vX d q)
    ·exact bM.vX d q
    ·exact bM.vX d q
    ·exact(f q .nil (fun a=>e (by rw[a]))).trans (bM.vX d q)
   |node l v r=>
    cases b<;>cases c
    ·exact f q l (fun a=>e (by rw[a]))
    ·rfl
    ·rfl
    ·exact f q r (fun a=>e (by rw[a]))
def bM.get(d:h)(t:bM h)(n:Nat):h:=bM.kP d (path n) t
def bM.set(d:h)(t:bM h)(n:Nat)(x:h):bM h:=bM.wJ d x (path n) t
theorem bM.get_nil(d:h)(n:Nat):bM.get d .nil n=d:=bM.vX d _
theorem bM.a_(d:h)(t:bM h)(i j:Nat)(x:h):(t.set d i x).get d j=if i=j then x else t.get d j:=by
 unfold bM.get bM.set;split
 ·rename_i a;subst a;exact bM.ain d x _ t
 ·rename_i a;exact bM.aio d x _ _ t (fun e=>a (aoy e).symm)
inductive Cap where
 |known (n:Nat)
 |grown (sz:Nat)
 |mg
 |least (n:Nat)
inductive V where
 |bool (b:Bool)
 |int (k:IntKind) (n:Int)
 |str (s:List UInt8)
 |ptr (b o:Nat)
 |ie
 |slice (b o len:Nat) (cap:Cap)
 |ak
 |emp
 |map (b:Nat)
 |jw
 |func (f:FuncId) (first captured:List V)
 |jU
 |jV
 |agg (cs:List V)
 |aK (vs:List V)
 |any
 |cell
 |row (n:Nat) (cs:List V)
 |dm (cs:List V) (k:Nat)
 |gu
abbrev V.undef:V:=.aK []
abbrev Fr:=bM V
inductive nj where
 |map (es:List (V×V))
 |iter (m since:Nat) (left:List Nat) (cur:Option Nat) (last:Nat)
 |ro (x:Obj)
inductive eg where
 |none
 |cells (cs:List V) (g:Nat)
 |b5 (leaf floor:Nat)
 |cv (o:nj)
structure ag where
 m:bM eg
 next:Nat
def ur(d:h)(l:List h):Nat→h:=
 List.rec (motive:=fun _=>Nat→h) (fun _=>d) (fun v _ a n=>Nat.rec (motive:=fun _=>h) v (fun m _=>a m) n) l
def eu(l:List h):Nat→Option h:=
 List.rec (motive:=fun _=>Nat→Option h) (fun _=>aW) (fun v _ a n=>Nat.rec (motive:=fun _=>Option h) (some v) (fun m _=>a m) n) l
def cP(l:List h):Nat:=List.rec (motive:=fun _=>Nat) 0 (fun _ _ a=>Nat.succ a) l
def eA(l:List h):Nat→List h:=
 List.rec (motive:=fun _=>Nat→List h) (fun _=>[]) (fun v l a n=>Nat.rec (motive:=fun _=>List h) (v::l) (fun m _=>a m) n) l
def cF(l:List h):Nat→Option (List h):=
 List.rec (motive:=fun _=>Nat→Option (List h)) (fun n=>Nat.rec (motive:=fun _=>Option (List h)) (some []) (fun _ _=>aW) n)
  (fun v _ a n=>Nat.rec (motive:=fun _=>Option (List h)) (some []) (fun m _=>Option.casesOn (motive:=fun _=>Option (List h)) (a m) aW (fun r=>some (v::r))) n) l
def mc(b:List h):List h→Option (List h):=
 List.rec (motive:=fun _=>List h→Option (List h)) (fun l=>some l)
  (fun x _ a l=>List.casesOn (motive:=fun _=>Option (List h)) l aW (fun _ l=>Option.casesOn (motive:=fun _=>Option (List h)) (a l) aW (fun r=>some (x::r)))) b
def dx(a:List h)(l:List h):Nat→Option (List h):=
 List.rec (motive:=fun _=>Nat→Option (List h)) (fun n=>Nat.rec (motive:=fun _=>Option (List h)) (mc a []) (fun _ _=>aW) n)
  (fun v l b n=>Nat.rec (motive:=fun _=>Option (List h)) (mc a (v::l)) (fun m _=>Option.casesOn (motive:=fun _=>Option (List h)) (b m) aW (fun r=>some (v::r))) n) l
def av{a:Type}(x:Option h)(f:h→Option a):Option a:=
 Option.casesOn (motive:=fun _=>Option a) x aW f
def bq(b:Bool)(x:Option h):Option h:=
 Bool.casesOn (motive:=fun _=>Option h) b aW x
def ag.get(H:ag)(b:Nat):eg:=H.m.get .none b
def ag.set(H:ag)(b:Nat)(o:eg):ag:=⟨H.m.set .none b o,H.next⟩
def ag.push(H:ag)(o:eg):ag:=⟨H.m.set .none H.next o,Nat.succ H.next⟩
def ag.gh(H:ag)(b g:Nat):Bool:=
 Nat.rec (motive:=fun _=>Bool) true (fun _ _=>eg.casesOn (motive:=fun _=>Bool) (H.get g) false (fun _ _=>false) (fun _ a=>b8 a b) (fun _=>false)) g
def ag.cells?(H:ag)(b:Nat):Option (List V):=
 eg.casesOn (motive:=fun _=>Option (List V)) (H.get b) aW (fun a g=>bq (H.gh b g) (some a)) (fun _ _=>aW) (fun _=>aW)
def ag.load(H:ag)(b o:Nat):Option V:=av (H.cells? b) fun a=>eu a o
def ag.dw(H:ag)(b o n:Nat):Option (List V):=av (H.cells? b) fun a=>cF (eA a o) n
def V.one(v:V):Bool:=match v with
 |.agg _=>false
 |.aK _=>false
 |.any=>false
 |_=>true
def de(l:List V):Bool:=List.rec (motive:=fun _=>Bool) true (fun v _ a=>and v.one a) l
def ag.e5(H:ag)(b o:Nat)(c:List V):Option ag:=
 eg.casesOn (motive:=fun _=>Option ag) (H.get b) aW
  (fun d g=>bq (de c)<|av (dx c d o) fun a=>
    Nat.rec (motive:=fun _=>Option ag) (some (H.set b (.cells a 0)))
     (fun _ _=>eg.casesOn (motive:=fun _=>Option ag) (H.get g) aW (fun _ _=>aW)
       (fun e _=>bq (bK e b) (some ((H.set b (.cells a g)).set g (.b5 b b)))) (fun _=>aW)) g)
  (fun _ _=>aW) (fun _=>aW)
def fE(f:h→h→Bool)(l:List h):List h→Bool:=
 List.rec (motive:=fun _=>List h→Bool) (fun m=>List.casesOn (motive:=fun _=>Bool) m true (fun _ _=>false))
  (fun a _ c m=>List.casesOn (motive:=fun _=>Bool) m false (fun b m=>and (f a b) (c m))) l
def gN(a b:IntKind):Bool:=match a,b with
 |.i8,.i8|.i16,.i16|.i32,.i32|.i64,.i64|.u8,.u8|.u16,.u16|.u32,.u32|.u64,.u64=>true
 |_,_=>false
def lA(a b:Int):Bool:=match a,b with
 |.ofNat a,.ofNat b=>bK a b
 |.negSucc a,.negSucc b=>bK a b
 |_,_=>false
def j9(a b:Int):Bool:=match a,b with
 |.ofNat a,.ofNat b=>b8 (Nat.succ a) b
 |.ofNat _,.negSucc _=>false
 |.negSucc _,.ofNat _=>true
 |.negSucc a,.negSucc b=>b8 (Nat.succ b) a
def m3(a b:UInt8):Bool:=bK a.toNat b.toNat
def H_(a b:Cap):Bool:=match a,b with
 |.known a,.known b=>bK a b
 |.grown a,.grown b=>bK a b
 |.mg,.mg=>true
 |.least a,.least b=>bK a b
 |_,_=>false
def qu(n:Nat):V→V→Bool:=
 Nat.rec (motive:=fun _=>V→V→Bool) (fun _ _=>false) (fun _ c a b=>
  match a with
  |.bool x=>(match b with|.bool y=>Bool.casesOn (motive:=fun _=>Bool) x (!y) y|_=>false)
  |.int k x=>(match b with|.int l y=>and (gN k l) (lA x y)|_=>false)
  |.str x=>(match b with|.str y=>fE m3 x y|_=>false)
  |.ptr x y=>(match b with|.ptr z t=>and (bK x z) (bK y t)|_=>false)
  |.ie=>(match b with|.ie=>true|_=>false)
  |.slice p q r s=>(match b with|.slice x y z t=>and (and (bK p x) (bK q y)) (and (bK r z) (H_ s t))|_=>false)
  |.ak=>(match b with|.ak=>true|_=>false)
  |.emp=>(match b with|.emp=>true|_=>false)
  |.map x=>(match b with|.map y=>bK x y|_=>false)
  |.jw=>(match b with|.jw=>true|_=>false)
  |.func f x y=>(match b with|.func g z t=>and (bK f g) (and (fE c x z) (fE c y t))|_=>false)
  |.jU=>(match b with|.jU=>true|_=>false)
  |.jV=>(match b with|.jV=>true|_=>false)
  |.agg x=>(match b with|.agg y=>fE c x y|_=>false)
  |.aK x=>(match b with|.aK y=>fE c x y|_=>false)
  |.any=>false
  |.cell=>false
  |.row x y=>(match b with|.row z t=>and (bK x z) (fE c y t)|_=>false)
  |.dm x y=>(match b with|.dm z t=>and (fE c x z) (bK y t)|_=>false)
  |.gu=>(match b with|.gu=>true|_=>false)) n
def sW(f:Value→Option V)(l:List Value):Option (List V):=
 List.rec (motive:=fun _=>Option (List V)) (some []) (fun v _ a=>av (f v) fun x=>av a fun r=>some (x::r)) l
def m0(n:Nat):Value→Option V:=
 Nat.rec (motive:=fun _=>Value→Option V) (fun _=>aW) (fun _ c v=>
  match v with
  |.bool b=>some (.bool b)
  |.int k n=>some (.int k n)
  |.string s=>some (.str s.data.toList)
  |.pointer aW=>some .ie
  |.slice aW 0 0=>some .ak
  |.map aW=>some .jw
  |.nilFunc=>some .jU
  |.nilIface=>some .jV
  |.agg a=>av (sW c a.toList) fun r=>some (.agg r)
  |.tuple a=>av (sW c a.toList) fun r=>some (.aK r)
  |_=>aW) n
structure cE where
 m:bM (Option TypeInfo)
def cE.info(T:cE)(t:TypeId):Option TypeInfo:=T.m.get aW t
def cE.bQ(T:cE)(t:TypeId):Option TypeDesc:=
 av (T.info t) fun i=>match i.desc with
  |.named _ u=>av (T.info u) fun j=>some j.desc
  |d=>some d
def cE.isAgg(T:cE)(t:TypeId):Option Bool:=av (T.bQ t) fun d=>match d with
 |.struct _=>some true
 |.array _ _=>some true
 |_=>some false
inductive Shape where
 |ptr|slice (len cap:Nat)|bytes (len:Nat)|map|least (len:Nat)
inductive bx where
 |val (v:V)
 |new (cs:List V) (s:Shape)
def Shape.mk(s:Shape)(b:Nat):V:=match s with
 |.ptr=>.ptr b 0
 |.slice l c=>.slice b 0 l (.known c)
 |.bytes l=>.slice b 0 l .mg
 |.map=>.map b
 |.least l=>.slice b 0 l (.least l)
inductive nQ where
 |fn (f:FuncId)
inductive b4 where
 |bad
 |pu (xs:List (Fr→V)) (g:List V→Option bx)
 |rd (xs:List (Fr→V)) (g:List V→ag→Option V)
 |gb (xs:List (Fr→V)) (g:List V→ag→Option (V×ag))
 |call (xs:List (Fr→V)) (g:List V→Option (nQ×List V))
 |lF (x:Fr→V)
def gQ(x:Operand):Option (Fr→V):=match x with
 |.tmp t=>some (fun F=>bM.kP V.undef (path t) F)
 |.const v=>av (m0 20 v) fun y=>some (fun _=>y)
 |.global g=>some (fun _=>.ptr g 0)
 |.func f=>some (fun _=>.func f [] [])
def hL(l:List Operand):Option (List (Fr→V)):=
 List.rec (motive:=fun _=>Option (List (Fr→V))) (some []) (fun x _ a=>av (gQ x) fun f=>av a fun r=>some (f::r)) l
def dK:IntKind→Nat
 |.i8|.u8=>256|.i16|.u16=>65536|.i32|.u32=>4294967296|.i64|.u64=>18446744073709551616
def gq:IntKind→Nat
 |.i8|.u8=>8|.i16|.u16=>16|.i32|.u32=>32|.i64|.u64=>64
def ob:IntKind→Bool
 |.i8|.i16|.i32|.i64=>true
 |_=>false
def gA(M:Nat)(x:Int):Nat:=match x with
 |.ofNat a=>Nat.mod a M
 |.negSucc a=>iz (iz M 1) (Nat.mod a M)
def mH(a:Bool)(M m:Nat):Int:=
 Bool.casesOn (motive:=fun _=>Int) (and a (b8 M (dW 2 m))) (.ofNat m) (.negSucc (iz (iz M 1) m))
def aG(k:IntKind)(x:Int):Int:=mH (ob k) (dK k) (gA (dK k) x)
def ic(k:IntKind)(x:Int):Option bx:=some (.val (.int k x))
def iq(b:Bool):Option bx:=some (.val (.bool b))
def ql(x:Int)(n:Nat):Int:=match x with
 |.ofNat a=>.ofNat (Nat.div a (Nat.pow 2 n))
 |.negSucc a=>.negSucc (Nat.div a (Nat.pow 2 n))
def dO(a b:Nat):Nat:=Bool.casesOn (motive:=fun _=>Nat) (b8 a b) b a
def BC(c:BinOp):Option (IntKind→Int→IntKind→Int→Option bx):=match c with
 |.add=>some fun k a l b=>bq (gN k l) (ic k (aG k (Int.add a b)))
 |.sub=>some fun k a l b=>bq (gN k l) (ic k (aG k (Int.sub a b)))
 |.mul=>some fun k a l b=>bq (gN k l) (ic k (aG k (Int.mul a b)))
 |.quo=>some fun k a l b=>bq (and (gN k l) (!(lA b (.ofNat 0)))) (ic k (aG k (kq a b)))
 |.rem=>some fun k a l b=>bq (and (gN k l) (!(lA b (.ofNat 0)))) (ic k (lP a b))
 |.and=>some fun k a l b=>bq (gN k l) (ic k (mH (ob k) (dK k) (Nat.land (gA (dK k) a) (gA (dK k) b))))
 |.or=>some fun k a l b=>bq (gN k l) (ic k (mH (ob k) (dK k) (Nat.lor (gA (dK k) a) (gA (dK k) b))))
 |.shl=>some fun k a _ b=>(match b with
   |.ofNat y=>ic k (aG k (Int.mul a (.ofNat (Nat.pow 2 (dO y (gq k))))))
   |.negSucc _=>aW)
 |.shr=>some fun k a _ b=>(match b with
   |.ofNat y=>ic k (ql a (dO y (gq k)))
   |.negSucc _=>aW)
 |.eql=>some fun k a l b=>bq (gN k l) (iq (lA a b))
 |.neq=>some fun k a l b=>bq (gN k l) (iq (!(lA a b)))
 |.lss=>some fun k a l b=>bq (gN k l) (iq (j9 a b))
 |.leq=>some fun k a l b=>bq (gN k l) (iq (!(j9 b a)))
 |.gtr=>some fun k a l b=>bq (gN k l) (iq (j9 b a))
 |.geq=>some fun k a l b=>bq (gN k l) (iq (!(j9 a b)))
 |_=>aW
def ez(x y:List h):List h:=List.rec (motive:=fun _=>List h) y (fun a _ b=>a::b) x
def CH(a:BinOp):Option (List UInt8→List UInt8→Option bx):=match a with
 |.add=>some fun x y=>bq (b8 (fW (cP x) (cP y)) 9223372036854775807) (some (.val (.str (ez x y))))
 |.eql=>some fun x y=>iq (fE m3 x y)
 |.neq=>some fun x y=>iq (!(fE m3 x y))
 |_=>aW
def gM(f:IntKind→Int→IntKind→Int→Option bx)(l:List V):Option bx:=
 match l with
 |[a,b]=>(match a with
  |.int k x=>(match b with|.int c y=>f k x c y|_=>aW)
  |_=>aW)
 |_=>aW
def od(f:List UInt8→List UInt8→Option bx)(l:List V):Option bx:=
 match l with
 |[a,b]=>(match a with
  |.str x=>(match b with|.str y=>f x y|_=>aW)
  |_=>aW)
 |_=>aW
def IG(neg:Bool)(l:List V):Option bx:=
 match l with
 |[a,b]=>(match a with
  |.bool x=>(match b with|.bool y=>iq (xor neg (xor x (!y)))|_=>aW)
  |.row n _=>(match b with|.ak=>Bool.casesOn (motive:=fun _=>Option bx) (bK n 0) (iq neg) aW|_=>aW)
  |.ak=>(match b with|.ak=>iq (!neg)|.slice .. =>iq neg|.emp=>iq neg|_=>aW)
  |.slice .. =>(match b with|.ak=>iq neg|_=>aW)
  |.emp=>(match b with|.ak=>iq neg|_=>aW)
  |_=>aW)
 |_=>aW
def vV(d:TypeDesc)(a:V):Bool:=match d with
 |.bool=>(match a with|.bool _=>true|_=>false)
 |.slice _=>(match a with|.slice .. =>true|.ak=>true|.emp=>true|.row _ _=>true|_=>false)
 |_=>false
def nX(neg:Bool)(d:TypeDesc)(l:List V):Option bx:=match l with
 |a::r=>bq (vV d a) (IG neg (a::r))
 |_=>aW
def vH(d:TypeDesc)(a b:V):Option Bool:=match d with
 |.int _=>(match a with|.int k x=>(match b with|.int l y=>bq (gN k l) (some (lA x y))|_=>aW)|_=>aW)
 |_=>aW
def lY(ds:List TypeDesc):List V→List V→Option Bool:=
 List.rec (motive:=fun _=>List V→List V→Option Bool) (fun a b=>List.casesOn (motive:=fun _=>Option Bool) a (List.casesOn (motive:=fun _=>Option Bool) b (some true) (fun _ _=>aW)) (fun _ _=>aW))
  (fun d _ c a b=>List.casesOn (motive:=fun _=>Option Bool) a aW (fun x a=>List.casesOn (motive:=fun _=>Option Bool) b aW (fun y b=>
    av (vH d x y) fun r=>av (c a b) fun s=>some (and r s)))) ds
def ue(d:TypeDesc):Bool:=match d with
 |.int _=>true
 |_=>false
def yJ(a:h)(n:Nat):List h:=Nat.rec (motive:=fun _=>List h) [] (fun _ b=>a::b) n
def zv(T:cE)(t:TypeId):Option (List TypeDesc):=
 av (T.bQ t) fun d=>match d with
  |.array n e=>av (T.bQ e) fun d=>bq (ue d)<|av (T.info e) fun i=>bq (bK i.size 1) (some (yJ d n))
  |_=>aW
def tu(T:cE)(b:BinOp)(t:TypeId)(a:List (Fr→V)):b4:=
 match T.bQ t with
 |some (.int _)=>(match BC b with|some f=>.pu a (gM f)|aW=>.bad)
 |some .string=>(match CH b with|some f=>.pu a (od f)|aW=>.bad)
 |some d=>(match b with|.eql=>.pu a (nX false d)|.neq=>.pu a (nX true d)|_=>.bad)
 |_=>.bad
def cellsOf(v:V):List V:=match v with
 |.agg a=>a
 |v=>[v]
def bP(v:V):Bool:=match v with
 |.any=>false
 |_=>true
def rep(b:List h)(n:Nat):List h:=Nat.rec (motive:=fun _=>List h) [] (fun _ a=>ez b a) n
def hH(c:Bool)(d:Nat)(l:List V)(H:ag):Option V:=
 match l with
 |[.ptr b o]=>Bool.casesOn (motive:=fun _=>Option V) c (H.load b o) (av (H.dw b o d) fun a=>some (.agg a))
 |[.dm a k]=>Bool.casesOn (motive:=fun _=>Option V) c (eu a k) (av (cF (eA a k) d) fun r=>some (.agg r))
 |_=>aW
def qm(a:Nat)(l:List V)(H:ag):Option (V×ag):=
 match l with
 |[.ptr b o,v]=>bq (and (bP v) (bK (cP (cellsOf v)) a)) (av (H.e5 b o (cellsOf v)) fun H=>some (V.undef,H))
 |_=>aW
def nZ(d:List (Nat×Nat)):List V→List V→Option (List V):=
 List.rec (motive:=fun _=>List V→List V→Option (List V)) (fun _ a=>some a)
  (fun p _ c b a=>List.casesOn (motive:=fun _=>Option (List V)) b aW (fun v b=>
    bq (and (bP v) (bK (cP (cellsOf v)) p.2)) (av (dx (cellsOf v) a p.1) fun a=>c b a))) d
def placesOf(f:Nat→Option (Nat×Nat))(l:List (Nat×Operand)):Option (List (Nat×Nat)×List (Fr→V)):=
 List.rec (motive:=fun _=>Option (List (Nat×Nat)×List (Fr→V))) (some ([],[]))
  (fun p _ a=>av (f p.1) fun q=>av (gQ p.2) fun x=>av a fun r=>some (q::r.1,x::r.2)) l
def zeroCells(T:cE)(t:TypeId):Option (List V):=
 av (T.info t) fun i=>av i.zero fun z=>av (m0 20 z) fun v=>some (cellsOf v)
def iw(T:cE)(t:TypeId):Option Nat:=av (T.info t) fun i=>some i.size
def hJ(x:Option b4):b4:=Option.casesOn (motive:=fun _=>b4) x .bad (fun c=>c)
def IV(T:cE)(l:List Field):Option (List (Nat×Nat)):=
 List.rec (motive:=fun _=>Option (List (Nat×Nat))) (some []) (fun f _ a=>av (iw T f.type) fun s=>av a fun r=>some ((f.offset,s)::r)) l
def DF(T:cE)(t:TypeId)(parts:List (Nat×Operand)):b4:=
 hJ<|av (zeroCells T t) fun c=>av (T.bQ t) fun d=>match d with
  |.struct f=>av (IV T f.toList) fun g=>av (placesOf (eu g) parts) fun r=>
    some (.pu r.2 (fun b=>av (nZ r.1 b c) fun a=>some (.val (.agg a))))
  |.array _ e=>av (iw T e) fun s=>av (placesOf (fun i=>some (dW i s,s)) parts) fun r=>
    some (.pu r.2 (fun b=>av (nZ r.1 b c) fun a=>some (.val (.agg a))))
  |_=>aW
def DG(T:cE)(t:TypeId)(a:Nat)(parts:List (Nat×Operand)):b4:=
 hJ<|av (T.bQ t) fun d=>match d with
  |.slice e=>av (iw T e) fun s=>bq (b8 (dW a s) 16777216)<|av (zeroCells T e) fun b=>
    av (placesOf (fun i=>some (dW i s,s)) parts) fun r=>
    bq (bK (cP b) s)<|some (.pu r.2 (fun f=>av (nZ r.1 f (rep b a)) fun c=>some (.new c (.slice a a))))
  |_=>aW
def fU(v:V):Option Nat:=match v with
 |.int _ (.ofNat n)=>some n
 |_=>aW
def vU(a:Nat)(l:List V):Option bx:=match l with
 |[.ptr b o]=>some (.val (.ptr b (fW o a)))
 |[.dm c k]=>some (.val (.dm c (fW k a)))
 |_=>aW
def dY(a:Option Nat)(c:Nat)(l:List V):Option bx:=match l with
 |[x,i]=>av (fU i) fun i=>(match x with
  |.ptr b o=>av a fun n=>bq (b8 (Nat.succ i) n) (some (.val (.ptr b (fW o (dW i c)))))
  |.slice b o e _=>Option.casesOn (motive:=fun _=>Option bx) a (bq (b8 (Nat.succ i) e) (some (.val (.ptr b (fW o (dW i c)))))) (fun _=>aW)
  |.row n d=>Option.casesOn (motive:=fun _=>Option bx) a (bq (b8 (Nat.succ i) n) (some (.val (.dm d (dW i c))))) (fun _=>aW)
  |.dm d k=>av a fun n=>bq (b8 (Nat.succ i) n) (some (.val (.dm d (fW k (dW i c)))))
  |_=>aW)
 |_=>aW
def jS(l:List V):Option bx:=match l with
 |[.str s,i]=>av (fU i) fun i=>av (eu s i) fun b=>some (.val (.int .u8 (.ofNat b.toNat)))
 |_=>aW
def jg(c a:Option V)(b d:Nat):Option (Nat×Nat):=
 av (Option.casesOn (motive:=fun _=>Option Nat) a (some b) fU) fun h=>
 av (Option.casesOn (motive:=fun _=>Option Nat) c (some 0) fU) fun l=>
 bq (and (b8 h d) (b8 l h)) (some (l,h))
def fy(n:Nat):Bool:=bK n 0
def uN(s:List UInt8)(b a:Option V):Option bx:=
 av (jg b a (cP s) (cP s)) fun r=>av (cF (eA s r.1) (iz r.2 r.1)) fun t=>some (.val (.str t))
def pg(b o d a f:Nat)(e c:Option V):Option bx:=
 av (jg e c d a) fun r=>
  some (.val (.slice b (Bool.casesOn (motive:=fun _=>Nat) (bK a r.1) (fW o (dW r.1 f)) o) (iz r.2 r.1) (.known (iz a r.1))))
def yR(b o c k:Nat)(d a:Option V):Option bx:=
 av (jg d a c k) fun r=>bq (fy r.1) (some (.val (.slice b o r.2 (.least k))))
def uO(b o a:Nat)(c:Cap)(f:Nat)(e d:Option V):Option bx:=
 av (jg e d a a) fun r=>
  Bool.casesOn (motive:=fun _=>Option bx) (or (fy r.1) (b8 (Nat.succ r.1) a)) (some (.val .emp))
   (some (.val (.slice b (fW o (dW r.1 f)) (iz r.2 r.1) c)))
def wP(c n:Nat)(d:List V)(b a mx:Option V):Option bx:=
 Option.casesOn (motive:=fun _=>Option bx) mx
  (av (jg b a n n) fun r=>Bool.casesOn (motive:=fun _=>Option bx) (bK r.1 r.2)
    (av (cF (eA d (dW r.1 c)) (dW (iz r.2 r.1) c)) fun t=>some (.val (.row (iz r.2 r.1) t)))
    (some (.val (.row 0 []))))
  (fun m=>av (fU m) fun m=>bq (fy m) (av (jg b a n 0) fun _=>some (.val .gu)))
def yQ(f:Nat)(x:V)(d a mx:Option V):Option bx:=
 match x with
 |.str s=>Option.casesOn (motive:=fun _=>Option bx) mx (uN s d a) (fun _=>aW)
 |.slice b o e c=>Option.casesOn (motive:=fun _=>Option bx) mx
   (match c with
    |.known n=>pg b o e n f d a
    |.grown h=>bq (bK h f) (uO b o e c f d a)
    |.mg=>uO b o e c f d a
    |.least k=>yR b o e k d a)
   (fun m=>av (fU m) fun m=>bq (b8 m (match c with|.known n=>n|_=>e)) (pg b o e m f d a))
 |.ak=>av (jg d a 0 0) fun _=>Option.casesOn (motive:=fun _=>Option bx) mx (some (.val .ak)) (fun m=>av (fU m) fun m=>bq (fy m) (some (.val .ak)))
 |.emp=>av (jg d a 0 0) fun _=>Option.casesOn (motive:=fun _=>Option bx) mx (some (.val .emp)) (fun m=>av (fU m) fun m=>bq (fy m) (some (.val .emp)))
 |.row n g=>wP f n g d a mx
 |_=>aW
def kg(x:V)(b a mx:Option V):Option bx:=match x with
 |.str s=>yQ 1 (.str s) b a mx
 |_=>aW
def jA(c:Nat)(x:V)(b a mx:Option V):Option bx:=match x with
 |.str _=>aW
 |x=>yQ c x b a mx
def lK(n d:Nat)(x:V)(c a mx:Option V):Option bx:=
 match x with
 |.ptr b o=>Option.casesOn (motive:=fun _=>Option bx) mx (pg b o n n d c a)
   (fun m=>av (fU m) fun m=>bq (b8 m n) (pg b o n m d c a))
 |_=>aW
def slice3(g:V→Option V→Option V→Option V→Option bx)(e d mx:Bool)(l:List V):Option bx:=
 match l with
 |x::r=>
  let a:=Bool.casesOn (motive:=fun _=>Option V×List V) e (aW,r) (match r with|y::r=>(some y,r)|[]=>(aW,[]));let b:=Bool.casesOn (motive:=fun _=>Option V×List V) d (aW,a.2) (match a.2 with|y::r=>(some y,r)|[]=>(aW,[]));let c:=Bool.casesOn (motive:=fun _=>Option V×List V) mx (aW,b.2) (match b.2 with|y::r=>(some y,r)|[]=>(aW,[]))
  bq (or (!mx) d) (g x a.1 b.1 c.1)
 |[]=>aW
def mS(bytes:Nat)(a:List V)(l:List V):Option bx:=match l with
 |[x,y]=>av (fU x) fun n=>av (fU y) fun c=>
   bq (and (b8 n c) (b8 (dW c bytes) 1099511627776)) (bq (b8 c 1099511627776) (some (.new (rep a c) (.slice n c))))
 |_=>aW
def j_(v:V):Option Nat:=match v with
 |.slice _ _ n _=>some n
 |.ak=>some 0
 |.emp=>some 0
 |.str s=>some (cP s)
 |.row n _=>some n
 |.gu=>some 0
 |_=>aW
def lmap{b:Type}(f:h→b)(l:List h):List b:=List.rec (motive:=fun _=>List b) [] (fun a _ c=>f a::c) l
def ec(H:ag)(a n:Nat)(v:V):Option (List V):=match v with
 |.slice b o _ _=>H.dw b o (dW n a)
 |.ak=>bq (fy n) (some [])
 |.emp=>bq (fy n) (some [])
 |.str s=>bq (bK a 1)<|av (cF s n) fun t=>some (lmap (fun b=>.int .u8 (.ofNat b.toNat)) t)
 |.row _ c=>cF c (dW n a)
 |.gu=>bq (fy n) (some [])
 |_=>aW
def l7(H:ag)(c b:Nat)(a:List V):Option (V×ag):=
 some (.slice H.next 0 b (.grown c),(H.push (.cells a (Nat.succ H.next))).push (.b5 H.next H.next))
def ju(a bytes:Nat):Bool:=and (b8 a 1099511627776) (b8 (dW a bytes) 1099511627776)
def qP(H:ag)(e:Nat)(b d:Nat)(a:List V):Option (V×ag):=
 eg.casesOn (motive:=fun _=>Option (V×ag)) (H.get b) aW
  (fun _ g=>eg.casesOn (motive:=fun _=>Option (V×ag)) (H.get g) aW (fun _ _=>aW)
    (fun c _=>bq (and (bK c b) (!(fy g))) (some (.slice H.next 0 d (.grown e),(H.push (.cells a g)).set g (.b5 H.next H.next))))
    (fun _=>aW))
  (fun _ _=>aW) (fun _=>aW)
def kL(d bytes:Nat)(s:V)(n:Nat)(e:List V)(H:ag):Option (V×ag):=
 Bool.casesOn (motive:=fun _=>Option (V×ag)) (fy n)
  (match s with
   |.ak=>bq (ju n bytes) (l7 H d n e)
   |.gu=>bq (ju n bytes) (l7 H d n e)
   |.slice b o a c=>
    bq (ju (fW a n) bytes)<|
    (match c with
     |.known k=>Bool.casesOn (motive:=fun _=>Option (V×ag)) (b8 (fW a n) k)
       (av (H.dw b o (dW a d)) fun f=>l7 H d (fW a n) (ez f e))
       (av (H.e5 b (fW o (dW a d)) e) fun H=>some (.slice b o (fW a n) c,H))
     |.grown g=>bq (and (bK g d) (de e)) (av (H.dw b o (dW a d)) fun f=>qP H d b (fW a n) (ez f e))
     |.mg=>aW
     |.least k=>bq (b8 (fW a n) k) (av (H.e5 b (fW o (dW a d)) e) fun H=>some (.slice b o (fW a n) (.least k),H)))
   |_=>aW)
  (match s with
   |.ak=>some (s,H)
   |.slice .. =>some (s,H)
   |.emp=>some (s,H)
   |.row _ _=>some (s,H)
   |.gu=>some (s,H)
   |_=>aW)
def ga(a bytes:Nat)(l:List V)(H:ag):Option (V×ag):=match l with
 |[s,x]=>av (j_ x) fun n=>av (ec H a n x) fun b=>kL a bytes s n b H
 |_=>aW
def xA(bytes:Nat)(a:List V)(l:List V):Option bx:=match l with
 |[s,x]=>(match s with
  |.ak=>av (fU x) fun n=>bq (and (b8 1 n) (ju n bytes)) (some (.new (rep a n) (.least n)))
  |_=>aW)
 |_=>aW
def nq(a:Nat)(l:List V)(H:ag):Option (V×ag):=match l with
 |[.slice b o c _,x]=>av (j_ x) fun m=>av (ec H a (dO m c) x) fun d=>
   av (H.e5 b o d) fun H=>some (.int .i64 (.ofNat (dO m c)),H)
 |[.ak,x]=>av (j_ x) fun _=>av (ec H a 0 x) fun _=>some (.int .i64 (.ofNat 0),H)
 |[.emp,x]=>av (j_ x) fun _=>av (ec H a 0 x) fun _=>some (.int .i64 (.ofNat 0),H)
 |_=>aW
def qe(T:cE)(c:TypeId):Option (V→V→Option Bool):=
 av (zv T c) fun ds=>some (fun a b=>match a with
  |.agg x=>(match b with|.agg y=>lY ds x y|_=>aW)
  |_=>aW)
def n4(f:V→V→Option Bool)(k:V)(a:List (V×V)):Nat→Option (Option (Nat×V)):=
 List.rec (motive:=fun _=>Nat→Option (Option (Nat×V))) (fun _=>some aW)
  (fun e _ b i=>av (f k e.1) fun r=>Bool.casesOn (motive:=fun _=>Option (Option (Nat×V))) r (b (Nat.succ i)) (some (some (i,e.2)))) a
def ag.iG(H:ag)(b:Nat):Option (List (V×V)):=
 eg.casesOn (motive:=fun _=>Option (List (V×V))) (H.get b) aW (fun _ _=>aW) (fun _ _=>aW) (fun o=>match o with|.map a=>some a|_=>aW)
def sB(a:Bool)(v:V)(there:Bool):V:=match a with
 |true=>.aK [v,.bool there]
 |false=>v
def sy(f:V→V→Option Bool)(z:V)(a:Bool)(l:List V)(H:ag):Option V:=match l with
 |[m,k]=>av (f k k) fun _=>(match m with
  |.jw=>some (sB a z false)
  |.map b=>av (H.iG b) fun c=>av (n4 f k c 0) fun r=>Option.casesOn (motive:=fun _=>Option V) r (some (sB a z false)) (fun q=>some (sB a q.2 true))
  |_=>aW)
 |_=>aW
def yh(l:List h)(x:h):Nat→List h:=
 List.rec (motive:=fun _=>Nat→List h) (fun _=>[]) (fun a l b n=>Nat.rec (motive:=fun _=>List h) (x::l) (fun m _=>a::b m) n) l
def w7(f:V→V→Option Bool)(l:List V)(H:ag):Option (V×ag):=match l with
 |[.map b,k,v]=>av (f k k) fun _=>av (H.iG b) fun a=>av (n4 f k a 0) fun r=>
   Option.casesOn (motive:=fun _=>Option (V×ag)) r (some (V.undef,H.set b (.cv (.map (ez a [(k,v)])))))
    (fun q=>some (V.undef,H.set b (.cv (.map (yh a (k,v) q.1)))))
 |_=>aW
def Jq(l:List V)(H:ag):Option (V×ag):=match l with
 |[]=>some (.map H.next,H.push (.cv (.map [])))
 |_=>aW
def sx(l:List V)(H:ag):Option V:=match l with
 |[.jw]=>some (.int .i64 (.ofNat 0))
 |[.map b]=>av (H.iG b) fun a=>some (.int .i64 (.ofNat (cP a)))
 |_=>aW
def upto(n:Nat):List Nat:=Nat.rec (motive:=fun _=>List Nat) [] (fun m a=>m::a) n
def yI(l:List V)(H:ag):Option (V×ag):=match l with
 |[.map b]=>av (H.iG b) fun a=>some (.ptr H.next 0,H.push (.cv (.iter b (cP a) (upto (cP a)) aW (cP a))))
 |_=>aW
def qU(l:List V)(H:ag):Option V:=match l with
 |[.ptr b 0]=>(match H.get b with
  |.cv (.iter m _ _ c d)=>av (H.iG m) fun a=>bq (bK (cP a) d)<|av c fun i=>av (eu a i) fun e=>some (.aK [e.1,e.2])
  |_=>aW)
 |_=>aW
def bytesOf(l:List V):Option (List UInt8):=
 List.rec (motive:=fun _=>Option (List UInt8)) (some []) (fun v _ a=>(match v with
  |.int .u8 (.ofNat n)=>bq (b8 (Nat.succ n) 256) (av a fun r=>some (gG n::r))
  |_=>aW)) l
def rD(l:List V)(H:ag):Option V:=match l with
 |[.ak]=>some (.str [])
 |[.emp]=>some (.str [])
 |[.slice b o c _]=>av (H.dw b o c) fun a=>av (bytesOf a) fun s=>some (.str s)
 |[.row n a]=>av (cF a n) fun a=>av (bytesOf a) fun s=>some (.str s)
 |_=>aW
def y3(l:List V):Option bx:=match l with
 |[.str s]=>some (.new (lmap (fun b=>.int .u8 (.ofNat b.toNat)) s) (.bytes (cP s)))
 |_=>aW
def oN(T:cE)(c b:TypeId)(a:List (Fr→V)):b4:=
 match T.bQ c,T.bQ b with
 |some (.int _),some (.int k)=>.pu a (fun l=>match l with|[.int _ n]=>ic k (aG k n)|_=>aW)
 |some .string,some (.slice e)=>(match T.bQ e with|some (.int .u8)=>.pu a y3|_=>.bad)
 |some (.slice e),some .string=>(match T.bQ e with|some (.int .u8)=>.rd a rD|_=>.bad)
 |_,_=>.bad
def un(f:V→Option bx)(l:List V):Option bx:=match l with
 |[v]=>f v
 |_=>aW
def yf(v:V):Option bx:=match v with
 |.str s=>ic .i64 (.ofNat (cP s))
 |_=>aW
def eC(v:V):Option bx:=match v with
 |.slice _ _ n _=>ic .i64 (.ofNat n)
 |.ak=>ic .i64 (.ofNat 0)
 |.emp=>ic .i64 (.ofNat 0)
 |.row n _=>ic .i64 (.ofNat n)
 |.gu=>ic .i64 (.ofNat 0)
 |_=>aW
def xY(v:V):Option bx:=match v with
 |.slice _ _ _ c=>(match c with|.known n=>ic .i64 (.ofNat n)|_=>aW)
 |.ak=>ic .i64 (.ofNat 0)
 |.gu=>ic .i64 (.ofNat 0)
 |_=>aW
def max2(a b:V):Option V:=match a,b with
 |.int k x,.int _ y=>some (.int k (match j9 x y with|true=>y|false=>x))
 |_,_=>aW
def min2(a b:V):Option V:=match a,b with
 |.int k x,.int _ y=>some (.int k (match j9 y x with|true=>y|false=>x))
 |_,_=>aW
def oR(f:V→V→Option V)(l:List V):Option bx:=match l with
 |[]=>aW
 |x::r=>av (List.rec (motive:=fun _=>V→Option V) (fun a=>some a) (fun y _ b a=>av (f a y) b) r x) fun v=>some (.val v)
def ai1(T:cE)(a:List TypeId):Option Bool:=av (eu a 1) fun t=>av (T.bQ t) fun d=>match d with
 |.int _=>some true
 |_=>some false
def xD(T:cE)(b:Builtin)(c:List TypeId)(a:List (Fr→V)):b4:=
 hJ<|av (eu c 0) fun t=>av (T.bQ t) fun d=>match b with
  |.len=>(match d with
    |.string=>some (.pu a (un yf))
    |.slice _=>some (.pu a (un eC))
    |.array n _=>some (.pu a (un fun _=>ic .i64 (.ofNat n)))
    |.map _ _=>some (.rd a sx)
    |_=>aW)
  |.cap=>(match d with
    |.slice _=>some (.pu a (un xY))
    |_=>aW)
  |.max=>some (.pu a (oR max2))
  |.min=>some (.pu a (oR min2))
  |.append=>(match d with
    |.slice e=>av (T.info e) fun i=>av (ai1 T c) fun z=>av (zeroCells T e) fun f=>bq (bK (cP f) i.size)
      (Bool.casesOn (motive:=fun _=>Option b4) z (some (.gb a (ga i.size i.bytes))) (some (.pu a (xA i.bytes f))))
    |_=>aW)
  |.copy=>(match d with
    |.slice e=>av (iw T e) fun s=>some (.gb a (nq s))
    |_=>aW)
  |_=>aW
def r0(l:List V):Option (nQ×List V):=match l with
 |.func f first captured::a=>some (.fn f,ez first (ez a captured))
 |_=>aW
def za(v:V):Option Nat:=match v with
 |.int .u64 (.ofNat n)=>some n
 |_=>aW
def yt(l:List V):Option (Nat×Nat×Nat):=match l with
 |[a,b,c]=>av (za a) fun x=>av (za b) fun y=>av (za c) fun z=>some (x,y,z)
 |_=>aW
def qN(l:List V):Option bx:=av (yt l) fun t=>bq (b8 t.2.2 1)
 (some (.val (.aK [.int .u64 (.ofNat (Nat.mod (fW (fW t.1 t.2.1) t.2.2) 18446744073709551616)),.int .u64 (.ofNat (Nat.div (fW (fW t.1 t.2.1) t.2.2) 18446744073709551616))])))
def sS(l:List V):Option bx:=av (yt l) fun t=>bq (b8 t.2.2 1)
 (some (.val (.aK [.int .u64 (.ofNat (Nat.mod (iz (iz (fW t.1 18446744073709551616) t.2.1) t.2.2) 18446744073709551616)),.int .u64 (.ofNat (Bool.casesOn (motive:=fun _=>Nat) (b8 (fW t.2.1 t.2.2) t.1) 1 0))])))
def IK(name:String):Option (List V→Option bx):=
 if name= "math/bits.Add64" then some qN
 else if name= "math/bits.Sub64" then some sS
 else aW
abbrev eF:=bM (Option Func)
def Yi(N:eF)(T:cE)(c:Call):b4:=
 hJ<|match c.callee with
  |.value (.func f)=>av (N.get aW f) fun d=>av (hL c.args.toList) fun a=>Option.casesOn (motive:=fun _=>Option b4) d.body
    (bq (d.origin== "") (av (IK d.name) fun g=>some (.pu a g)))
    (fun _=>some (.call a (fun l=>some (.fn f,l))))
  |.value x=>av (hL (x::c.args.toList)) fun a=>some (.call a r0)
  |.builtin b=>av (hL c.args.toList) fun a=>some (xD T b c.argTypes.toList a)
  |.invoke _ _=>aW
def yx(l:List V):Option bx:=match l with
 |[.ptr b o]=>some (.val (.ptr b o))
 |[.dm a k]=>some (.val (.dm a k))
 |_=>aW
def yD(l:List V):Option bx:=match l with
 |[.bool true,x,_]=>some (.val x)
 |[.bool false,_,x]=>some (.val x)
 |_=>aW
def x3(i:Nat)(l:List V):Option bx:=match l with
 |[.aK a]=>av (eu a i) fun v=>some (.val v)
 |_=>aW
def aaX(l:List V):Option bx:=match l with
 |[x]=>some (.val x)
 |_=>aW
def LJ(l:List V)(H:ag):Option (V×ag):=match l with
 |[x]=>some (x,H)
 |_=>aW
def acN(n:Nat)(l:List V):Option (List V×List V):=av (cF l n) fun a=>some (a,eA l n)
def nw(x:Option Operand):List Operand:=match x with|some y=>[y]|aW=>[]
def cop(N:eF)(T:cE)(o:Op):b4:=match o with
 |.move x=>hJ (av (gQ x) fun x=>some (.pu [x] aaX))
 |.assign x=>hJ (av (gQ x) fun x=>some (.gb [x] LJ))
 |.pick c a b=>hJ (av (hL [c,a,b]) fun h=>some (.pu h yD))
 |.alloc t=>hJ (av (zeroCells T t) fun q=>some (.pu [] (fun l=>match l with|[]=>some (.new q .ptr)|_=>aW)))
 |.box _ x=>hJ (av (gQ x) fun x=>some (.pu [x] (fun l=>match l with|[v]=>bq (bP v) (some (.new (cellsOf v) .ptr))|_=>aW)))
 |.build t parts=>DF T t parts.toList
 |.buildSlice t n parts=>DG T t n parts.toList
 |.load t a=>hJ (av (gQ a) fun x=>av (T.isAgg t) fun g=>av (iw T t) fun s=>some (.rd [x] (hH g s)))
 |.store t a v=>hJ (av (hL [a,v]) fun h=>av (iw T t) fun s=>some (.gb h (qm s)))
 |.nilCheck x=>hJ (av (gQ x) fun x=>some (.pu [x] yx))
 |.binOp w t x y _=>hJ (av (hL [x,y]) fun h=>some (tu T w t h))
 |.unOp w _ x=>hJ (av (gQ x) fun x=>match w with
   |.neg=>some (.pu [x] (fun l=>match l with|[.int k n]=>ic k (aG k (Int.sub (.ofNat 0) n))|_=>aW))
   |.not=>some (.pu [x] (fun l=>match l with|[.bool b]=>iq (!b)|_=>aW))
   |_=>aW)
 |.convert s d x=>hJ (av (gQ x) fun x=>some (oN T s d [x]))
 |.makeFunc (.func f) first captured=>hJ (av (hL (ez first.toList captured.toList)) fun h=>some (.pu h (fun l=>av (acN (cP first.toList) l) fun r=>some (.val (.func f r.1 r.2)))))
 |.makeSlice t l c=>hJ (av (hL [l,c]) fun h=>av (T.bQ t) fun d=>match d with
   |.slice e=>av (T.info e) fun i=>av (zeroCells T e) fun q=>bq (bK (cP q) i.size) (some (.pu h (mS i.bytes q)))
   |_=>aW)
 |.slice t x p j mx=>hJ (av (hL (x::ez (nw p) (ez (nw j) (nw mx)))) fun h=>av (T.bQ t) fun d=>match d with
   |.string=>some (.pu h (slice3 kg p.isSome j.isSome mx.isSome))
   |.slice e=>av (iw T e) fun s=>some (.pu h (slice3 (jA s) p.isSome j.isSome mx.isSome))
   |.array n e=>av (iw T e) fun s=>some (.pu h (slice3 (lK n s) p.isSome j.isSome mx.isSome))
   |_=>aW)
 |.fieldAddr s x f=>hJ (av (gQ x) fun x=>av (T.bQ s) fun d=>match d with
   |.struct A=>av (eu A.toList f) fun f=>av (iw T f.type) fun n=>bq (!(fy n)) (some (.pu [x] (vU f.offset)))
   |_=>aW)
 |.indexAddr t x i=>hJ (av (hL [x,i]) fun h=>av (T.bQ t) fun d=>match d with
   |.slice e=>av (iw T e) fun s=>some (.pu h (dY aW s))
   |.array n e=>av (iw T e) fun s=>some (.pu h (dY (some n) s))
   |_=>aW)
 |.index t x i=>hJ (av (hL [x,i]) fun h=>av (T.bQ t) fun d=>match d with
   |.string=>some (.pu h jS)
   |_=>aW)
 |.extract t i=>hJ (av (gQ t) fun x=>some (.pu [x] (x3 i)))
 |.makeMap _ r=>(match r with|aW=>.gb [] Jq|some _=>.bad)
 |.lookup t x i C=>hJ (av (hL [x,i]) fun h=>av (T.bQ t) fun d=>match d with
   |.map u e=>av (qe T u) fun f=>av (T.info e) fun i=>av i.zero fun z=>av (m0 20 z) fun z=>some (.rd h (sy f z C))
   |_=>aW)
 |.mapUpdate t m k v=>hJ (av (hL [m,k,v]) fun h=>av (T.bQ t) fun d=>match d with
   |.map u _=>av (qe T u) fun f=>some (.gb h (w7 f))
   |_=>aW)
 |.range t x=>hJ (av (gQ x) fun x=>av (T.bQ t) fun d=>match d with
   |.map _ _=>some (.gb [x] yI)
   |_=>aW)
 |.next x B=>hJ (av (gQ x) fun x=>some (Bool.casesOn (motive:=fun _=>b4) B (.lF x) .bad))
 |.entry x=>hJ (av (gQ x) fun x=>some (.rd [x] qU))
 |.call c=>Yi N T c
 |_=>.bad
structure Step where
 want:Fr→Option Bool
 dst:Option Nat
 cop:b4
inductive b_ where
 |ex (s:Step)
 |re (s:Step)
inductive X where
 |norm|exit (id:Nat)|ret
inductive hC where
 |fail
 |ok (x:X) (F:Fr) (H:ag)
def put(F:Fr)(d:Option Nat)(v:V):Fr:=
 Option.casesOn (motive:=fun _=>Fr) d F (fun t=>bM.wJ V.undef v (path t) F)
def vals(a:List (Fr→V))(F:Fr):List V:=lmap (fun x=>x F) a
abbrev jl:=nQ→List V→ag→Option (V×ag)
def exec(cf:jl)(s:Step)(F:Fr)(H:ag):Option (Fr×ag):=
 Option.casesOn (motive:=fun _=>Option (Fr×ag)) (s.want F) aW fun e=>Bool.casesOn (motive:=fun _=>Option (Fr×ag)) e (some (put F s.dst V.undef,H))
  (match s.cop with
   |.bad=>aW
   |.pu a g=>av (g (vals a F)) fun r=>bx.casesOn (motive:=fun _=>Option (Fr×ag)) r (fun v=>some (put F s.dst v,H)) (fun b d=>some (put F s.dst (d.mk H.next),H.push (.cells b 0)))
   |.rd a g=>av (g (vals a F) H) fun v=>some (put F s.dst v,H)
   |.gb a g=>av (g (vals a F) H) fun r=>some (put F s.dst r.1,r.2)
   |.call a g=>av (g (vals a F)) fun c=>av (cf c.1 c.2 H) fun r=>some (put F s.dst r.1,r.2)
   |.lF _=>aW)
def again(s:Step)(F:Fr)(H:ag):Bool:=
 Option.casesOn (motive:=fun _=>Bool) (s.want F) false fun a=>Bool.casesOn (motive:=fun _=>Bool) a true
  (match s.cop with
   |.rd b g=>Option.casesOn (motive:=fun _=>Bool) (g (vals b F) H) false (fun v=>Option.casesOn (motive:=fun _=>Bool) s.dst true (fun t=>qu 20 v (bM.kP V.undef (path t) F)))
   |_=>true)
def rm(cf:jl)(l:List b_):Fr→ag→Option (Fr×ag):=
 List.rec (motive:=fun _=>Fr→ag→Option (Fr×ag)) (fun F H=>some (F,H))
  (fun i _ a F H=>b_.casesOn (motive:=fun _=>Option (Fr×ag)) i (fun s=>av (exec cf s F H) fun r=>a r.1 r.2) (fun s=>bq (again s F H) (a F H))) l
def jQ(e:Edge):Bool:=match e.ground with
 |.textOnly _=>false
 |.gcOnly _=>false
 |_=>true
def ye(f:h→Bool)(l:List h):Bool:=List.rec (motive:=fun _=>Bool) false (fun a _ b=>or (f a) b) l
def kS(f:h→Bool)(l:List h):Bool:=List.rec (motive:=fun _=>Bool) true (fun a _ b=>and (f a) b) l
def kB(f:h→Bool)(l:List h):List h:=List.rec (motive:=fun _=>List h) [] (fun a _ b=>Bool.casesOn (motive:=fun _=>List h) (f a) b (a::b)) l
def ia(m i:Nat):Bool:=bK (Nat.mod (Nat.shiftRight m i) 2) 1
def o4(b:List Nat)(c:List Edge):Nat:=
 List.rec (motive:=fun _=>Nat) 0 (fun e _ a=>Bool.casesOn (motive:=fun _=>Nat) (jQ e) a (Nat.lor a (Nat.lor (Nat.shiftLeft 1 e.on) (ur 0 b e.on)))) c
def masks(c:List Oper):List Nat→List Nat:=
 List.rec (motive:=fun _=>List Nat→List Nat) (fun a=>a) (fun o _ b a=>b (ez a [o4 a o.after.toList])) c
def lg(b:List Oper):Nat→Bool:=
 List.rec (motive:=fun _=>Nat→Bool) (fun _=>true) (fun o _ a i=>and (kS (fun e=>or (!(jQ e)) (b8 (Nat.succ e.on) i)) o.after.toList) (a (Nat.succ i))) b
def BD(t:Nat)(x:Operand):Bool:=match x with
 |.tmp u=>bK t u
 |_=>false
def vM(a:List Oper)(j:Nat):Option Nat:=av (eu a j) fun o=>o.dst
def B3(t:Nat)(d:Option Nat):Bool:=match d with|some u=>bK t u|aW=>false
def reads(a:List Oper)(o:Oper)(t:Nat):Bool:=
 or (ye (BD t) o.op.operands.toList) (match o.guard with|some (j,_)=>B3 t (vM a j)|aW=>false)
def kh(a:List Oper)(o:Oper)(t:Nat):Bool:=or (B3 t o.dst) (reads a o t)
structure Info where
 ix:Nat
 o:Oper
 mask:Nat
 s:Step
 gH:Bool
def l8(b:Bool)(v:V):Option Bool:=match v with
 |.bool x=>some (Bool.casesOn (motive:=fun _=>Bool) b (!x) x)
 |.any=>aW
 |.cell=>aW
 |_=>some false
def kZ(a:List Oper)(g:Option (Nat×Bool)):Fr→Option Bool:=match g with
 |aW=>fun _=>some true
 |some (j,b)=>Option.casesOn (motive:=fun _=>Fr→Option Bool) (vM a j) (fun _=>some false)
   (fun t F=>l8 b (bM.kP V.undef (path t) F))
def stepOf(N:eF)(T:cE)(a:List Oper)(o:Oper):Step:=⟨kZ a o.guard,o.dst,cop N T o.op⟩
def oW(c:b4):Bool:=match c with|.gb _ _=>true|.call _ _=>true|.lF _=>true|_=>false
def v5(c:b4):Bool:=match c with|.rd _ _=>true|_=>false
def infos(N:eF)(T:cE)(a:List Oper)(c:List Oper):List Nat→Nat→List Info:=
 List.rec (motive:=fun _=>List Nat→Nat→List Info) (fun _ _=>[])
  (fun o _ b ms i=>⟨i,o,ur 0 ms 0,stepOf N T a o,oW (cop N T o.op)⟩::b (eA ms 1) (Nat.succ i)) c
def rC(a:List Oper)(l:List Info):Bool:=
 kS (fun k=>match k.o.dst with
  |aW=>k.gH
  |some t=>and (or k.gH (!(reads a k.o t))) (kS (fun i=>or (bK i.ix k.ix) (or (!(kh a i.o t)) (or (ia i.mask k.ix) (and k.gH (ia k.mask i.ix))))) l)) l
def A7(l:List Info):Bool:=
 List.rec (motive:=fun _=>Bool) true (fun a l c=>and c (List.casesOn (motive:=fun _=>Bool) l true (fun b _=>ia b.mask a.ix))) l
def mL(b:List Info)(m:Nat):Nat:=List.rec (motive:=fun _=>Nat) 0 (fun e _ a=>Bool.casesOn (motive:=fun _=>Nat) (ia m e.ix) a (Nat.succ a)) b
def mG(l a:List Info)(j:Nat):List Info:=kB (fun i=>and (!i.gH) (bK (mL a i.mask) j)) l
def yT(l a:List Info)(r:List Info):Nat→List b_:=
 List.rec (motive:=fun _=>Nat→List b_) (fun j=>lmap (fun i=>b_.ex i.s) (mG l a j))
  (fun e _ b j=>ez (lmap (fun i=>b_.ex i.s) (mG l a j)) (b_.ex e.s::ez
    (lmap (fun i=>b_.re i.s) (kB (fun i=>and (!i.gH) (and (v5 i.s.cop) (and (b8 (mL a i.mask) j) (!(ia e.mask i.ix))))) l)) (b (Nat.succ j)))) r
def plan(N:eF)(T:cE)(a:List Oper)(c:Bool):Option (List b_):=
 Bool.casesOn (motive:=fun _=>Option (List b_)) c (some (lmap (fun o=>b_.ex (stepOf N T a o)) a))
  (let l:=infos N T a a (masks a []) 0
   let b:=kB (fun i=>i.gH) l
   bq (and (lg a 0) (and (rC a l) (A7 b))) (some (yT l b b 0)))
def sG(G n:Nat)(x:Operand):Bool:=match x with
 |.tmp t=>b8 (Nat.succ t) n
 |.global g=>b8 (Nat.succ g) G
 |_=>true
def JH(n:Nat)(d:Option Nat):Bool:=match d with|some t=>b8 (Nat.succ t) n|aW=>true
def mh(G n:Nat)(o:Oper):Bool:=and (JH n o.dst) (kS (sG G n) o.op.operands.toList)
def codeOk(G n:Nat)(c:Code):Bool:=
 Code.rec (motive:=fun _=>Bool) true (fun _ d _=>kS (mh G n) d.toList) (fun _ _ a b=>and a b) (fun x _ _ a b=>and (sG G n x) (and a b)) (fun _ _ a=>a) (fun _ a=>a)
  (fun g _ _ _ a b=>and (sG G n g) (and a b)) (fun _=>true) (fun _ a=>a) (fun _=>true) (fun _=>true) true (fun _=>true) c
def J'(n:Nat)(r:ResultVar):Bool:=match r with
 |.tmp t=>b8 (Nat.succ t) n
 |.cell a _=>b8 (Nat.succ a) n
def qW(G:Nat)(a:Func)(c:Code):Bool:=and (!(a.name== "runtime.NumGoroutine")) (and (codeOk G a.ntmps c) (kS (J' a.ntmps) a.results.toList))
def Ka(T:cE)(F:Fr)(H:ag)(r:ResultVar):Option V:=match r with
 |.tmp t=>some (bM.kP V.undef (path t) F)
 |.cell a t=>av (T.isAgg t) fun g=>av (iw T t) fun s=>hH g s [bM.kP V.undef (path a) F] H
def qj(T:cE)(F:Fr)(H:ag)(l:List ResultVar):Option (List V):=
 List.rec (motive:=fun _=>Option (List V)) (some []) (fun r _ a=>av (Ka T F H r) fun v=>av a fun r=>some (v::r)) l
def nD(l:List V):V:=match l with
 |[v]=>v
 |l=>.aK l
def l5(a:List V):Nat→Fr→Fr:=
 List.rec (motive:=fun _=>Nat→Fr→Fr) (fun _ F=>F) (fun v _ b i F=>b (Nat.succ i) (bM.wJ V.undef v (path i) F)) a
abbrev th:=Nat→Bool→Code→Fr→ag→hC
def Ib(G:Nat)(N:eF)(T:cE)(run:th)(f:FuncId)(b:List V)(H:ag):Option (V×ag):=
 av (N.get aW f) fun a=>av a.body fun c=>bq (and (qW G a c) (b8 (cP b) a.ntmps))
  (hC.casesOn (motive:=fun _=>Option (V×ag)) (run a.ntmps false c (l5 b 0 .nil) H) aW
    (fun x F H=>(match x with
      |.exit _=>aW
      |_=>av (qj T F H a.results.toList) fun l=>some (nD l,H))))
def vF(G:Nat)(N:eF)(T:cE)(O:jl)(run:th):jl:=fun t a H=>
 Option.casesOn (motive:=fun _=>Option (V×ag)) (O t a H)
  (nQ.casesOn (motive:=fun _=>Option (V×ag)) t (fun f=>Ib G N T run f a H)) some
def andThen(r:hC)(k:Fr→ag→hC):hC:=
 hC.casesOn (motive:=fun _=>hC) r .fail (fun x F H=>X.casesOn (motive:=fun _=>hC) x (k F H) (fun id=>.ok (.exit id) F H) (.ok .ret F H))
def Z9(id:Nat)(r:hC):hC:=
 hC.casesOn (motive:=fun _=>hC) r .fail (fun x F H=>X.casesOn (motive:=fun _=>hC) x (.ok .norm F H)
  (fun i=>Bool.casesOn (motive:=fun _=>hC) (bK i id) (.ok (.exit i) F H) (.ok .norm F H)) (.ok .ret F H))
def abY(o:Option (Fr×ag)):hC:=Option.casesOn (motive:=fun _=>hC) o .fail (fun r=>.ok .norm r.1 r.2)
def apZ(N:eF)(T:cE)(cf:jl)(b:Array Oper)(a:Bool)(F:Fr)(H:ag):hC:=
 abY (av (plan N T b.toList a) fun l=>rm cf l F H)
def Kh(run:Code→Fr→ag→hC)(c:Operand)(a b:Code)(F:Fr)(H:ag):hC:=
 Option.casesOn (motive:=fun _=>hC) (gQ c) .fail (fun x=>(match x F with
  |.bool t=>Bool.casesOn (motive:=fun _=>hC) t (run b F H) (run a F H)
  |_=>.fail))
def run(G:Nat)(N:eF)(T:cE)(O:jl)(f:Nat):th:=
 Nat.rec (motive:=fun _=>th) (fun _ _ _ _ _=>.fail) (fun _ d n rd c F H=>
  Code.casesOn (motive:=fun _=>hC) c (.ok .norm F H)
   (fun _ g e=>apZ N T (vF G N T O d) g e F H)
   (fun a b=>andThen (d n rd a F H) (d n rd b))
   (fun x a b=>Kh (d n rd) x a b F H)
   (fun id b=>Z9 id (d n rd b F H))
   (fun b=>andThen (d n rd b F H) (d n rd (.loop b)))
   (fun _ _ _ _=>.fail)
   (fun id=>.ok (.exit id) F H)
   (fun c=>Bool.casesOn (motive:=fun _=>hC) rd (d n false c F H) .fail)
   (fun _=>.ok .norm F H)
   (fun _=>.fail)
   (.ok .ret F H)
   (fun _=>.fail)) f
def Ia(G:Nat)(N:eF)(T:cE)(O:jl)(a:Nat):jl:=vF G N T O (run G N T O a)
def o5:jl:=fun _ _ _=>aW
def uR(l:List h):Nat→bM (Option h)→bM (Option h):=
 List.rec (motive:=fun _=>Nat→bM (Option h)→bM (Option h)) (fun _ t=>t) (fun a _ b i t=>b (Nat.succ i) (bM.wJ aW (some a) (path i) t)) l
def ZD(P:Program):eF:=uR P.funcs.toList 0 .nil
def ac9(P:Program):cE:=⟨uR P.types.toList 0 .nil⟩
structure Loc where
 c:Nat
 base:Nat
 ji:Nat
structure aO where
 f:Nat→Option Loc
 im:Nat→Option Obj
instance:CoeFun aO (fun _=>Nat→Option Loc):=⟨aO.f⟩
def Obj.at(x:Obj)(i:Nat)(v:Value):Prop:=∀(w:World) (c:Nat),w.heap[c]? =some x→w.cell? ⟨c,i,none⟩=some v
def Yp(b:Cap)(a o c:Nat):Prop:=match b with
 |.known n=>a=n
 |.grown d=>o+a*d≤c
 |.mg=>True
 |.least n=>n≤a
mutual
inductive aS (φ:aO):V→Value→Prop
 |bool (b:Bool):aS φ (.bool b) (.bool b)
 |int (k:IntKind) (n:Int):aS φ (.int k n) (.int k n)
 |str (s:List UInt8):aS φ (.str s) (.string ⟨⟨s⟩⟩)
 |ptr {b o:Nat}{l:Loc} (h:φ b=some l):aS φ (.ptr b o) (.pointer (some ⟨l.c,l.base+o,none⟩))
 |ie:aS φ .ie (.pointer none)
 |slice {b o len:Nat}{cap:Cap}{cap':Nat}{l:Loc} (h:φ b=some l) (h1:len≤cap') (h2:Yp cap cap' o l.ji):
   aS φ (.slice b o len cap) (.slice (some ⟨l.c,l.base+o,none⟩) len cap')
 |ak:aS φ .ak (.slice none 0 0)
 |emp (a:Addr) (cap':Nat):aS φ .emp (.slice (some a) 0 cap')
 |map {b:Nat}{l:Loc} (h:φ b=some l):aS φ (.map b) (.map (some l.c))
 |jw:aS φ .jw (.map none)
 |func (f:FuncId) {xs ys:List V}{xs' ys':List Value} (h1:bC φ xs xs') (h2:bC φ ys ys'):aS φ (.func f xs ys) (.func (.func f) ⟨xs'⟩ ⟨ys'⟩)
 |jU:aS φ .jU .nilFunc
 |jV:aS φ .jV .nilIface
 |agg {xs:List V}{xs':List Value} (h:bC φ xs xs'):aS φ (.agg xs) (.agg ⟨xs'⟩)
 |aK {xs:List V}{xs':List Value} (h:bC φ xs xs'):aS φ (.aK xs) (.tuple ⟨xs'⟩)
 |any (v':Value):aS φ .any v'
 |cell {v':Value} (h:v'.oneCell'=true):aS φ .cell v'
 |e4 (a:Option Addr) (cap':Nat) (h:a=none→cap'=0):aS φ (.row 0 []) (.slice a 0 cap')
 |row {n c o cap':Nat}{cs:List V}{vs:List Value}{x:Obj} (h:φ.im c=some x) (h1:bC φ cs vs) (h2:∀i v,vs[i]? =some v→Obj.at x (o+i) v) (h3:n≤cap'):aS φ (.row n cs) (.slice (some ⟨c,o,none⟩) n cap')
 |dm {k c o:Nat}{cs:List V}{vs:List Value}{x:Obj} (h:φ.im c=some x) (h1:bC φ cs vs) (h2:∀i v,vs[i]? =some v→Obj.at x (o+i) v):aS φ (.dm cs k) (.pointer (some ⟨c,o+k,none⟩))
 |gu (a:Option Addr):aS φ .gu (.slice a 0 0)
inductive bC (φ:aO):List V→List Value→Prop
 |nil:bC φ [] []
 |cons {v:V}{v':Value}{vs:List V}{vs':List Value} (h:aS φ v v') (h':bC φ vs vs'):bC φ (v::vs) (v'::vs')
end
structure aO.le (φ ψ:aO):Prop where
 f:∀b l,φ b=some l→ψ b=some l
 im:∀c x,φ.im c=some x→ψ.im c=some x
instance{a c:aO}:CoeFun (a.le c) (fun _=>∀b l,a b=some l→c b=some l):=⟨aO.le.f⟩
theorem aO.le_refl(a:aO):a.le a:=⟨fun _ _ h=>h,fun _ _ h=>h⟩
variable{n:aO}
theorem aO.le_trans{f d:aO}(h:n.le f)(a:f.le d):n.le d:=⟨fun b l e=>a b l (h b l e),fun c x e=>a.im c x (h.im c x e)⟩
variable{w:Value}
theorem aS.mono{g:aO}(h:n.le g){v:V}(r:aS n v w):aS g v w:=by
 refine aS.rec (motive_1:=fun v w _=>aS g v w) (motive_2:=fun v w _=>bC g v w) ?_ ?_ ?_ ?_ ?_ ?_ ?_ ?_ ?_ ?_ ?_ ?_ ?_ ?_ ?_ ?_ ?_ ?_ ?_ ?_ ?_ ?_ ?_ r
 ·exact fun b=>.bool b
 ·exact fun k l=>.int k l
 ·exact fun s=>.str s
 ·exact fun e=>.ptr (h _ _ e)
 ·exact .ie
 ·exact fun e i d=>.slice (h _ _ e) i d
 ·exact .ak
 ·exact fun a c=>.emp a c
 ·exact fun e=>.map (h _ _ e)
 ·exact .jw
 ·exact fun f _ _ _ _ _ _ a b=>.func f a b
 ·exact .jU
 ·exact .jV
 ·exact fun _ a=>.agg a
 ·exact fun _ a=>.aK a
 ·exact fun w=>.any w
 ·exact fun e=>.cell e
 ·exact fun a c h=>.e4 a c h
 ·exact fun e _ d j a=>.row (h.im _ _ e) a d j
 ·exact fun e _ d a=>.dm (h.im _ _ e) a d
 ·exact fun a=>.gu a
 ·exact .nil
 ·exact fun _ _ a b=>.cons a b
theorem bC.mono{d:aO}(h:n.le d):∀ {v:List V}{c:List Value},bC n v c→bC d v c
 |_,_,.nil=>.nil
 |_,_,.cons a b=>.cons (a.mono h) (b.mono h)
theorem bC.length:∀ {v:List V}{a:List Value},bC n v a→v.length=a.length
 |_,_,.nil=>rfl
 |_,_,.cons _ b=>by simp[b.length]
theorem bC.get:∀ {v:List V}{c:List Value},bC n v c→∀(i:Nat) (x:V),v[i]? =some x→∃d,c[i]? =some d∧aS n x d
 |_,_,.nil,i,x,h=>by simp at h
 |_,_,.cons a b,0,x,h=>by simp at h;subst h;exact⟨_,rfl,a⟩
 |_,_,.cons _ b,i+1,x,h=>by simpa using b.get i x (by simpa using h)
theorem bC.append:∀ {v:List V}{d:List Value}{u:List V}{c:List Value},bC n v d→bC n u c→bC n (v++u) (d++c)
 |_,_,_,_,.nil,h=>h
 |_,_,_,_,.cons a b,h=>.cons a (b.append h)
theorem bC.take(c:Nat):∀ {v:List V}{d:List Value},bC n v d→bC n (v.take c) (d.take c):=by
 induction c with
 |zero=>intro v d _;simpa using bC.nil
 |succ c e=>intro v d h;cases h with
  |nil=>simpa using bC.nil
  |cons a b=>exact .cons a (e b)
theorem bC.drop(c:Nat):∀ {v:List V}{d:List Value},bC n v d→bC n (v.drop c) (d.drop c):=by
 induction c with
 |zero=>intro v d h;simpa using h
 |succ c e=>intro v d h;cases h with
  |nil=>simpa using bC.nil
  |cons a b=>exact e b
theorem iW(l:List h):∀n,eu l n=l[n]? :=by
 induction l with
 |nil=>intro n;rfl
 |cons a l b=>intro n;cases n with
  |zero=>rfl
  |succ n=>exact(b n).trans aJ
theorem uu(d:h)(l:List h):∀n,ur d l n=(l[n]?).getD d:=by
 induction l with
 |nil=>intro n;rfl
 |cons a l b=>intro n;cases n with
  |zero=>rfl
  |succ n=>exact(b n).trans aJ
theorem gx(l:List h):cP l=l.length:=by
 induction l with
 |nil=>rfl
 |cons a l b=>exact congrArg Nat.succ b
theorem jT(l:List h):∀n,eA l n=l.drop n:=by
 induction l with
 |nil=>intro n;cases n<;>rfl
 |cons a l b=>intro n;cases n with
  |zero=>rfl
  |succ n=>exact b n
theorem iV(x y:List h):ez x y=x++y:=by
 induction x with
 |nil=>rfl
 |cons a x b=>exact congrArg (a:: ·) b
theorem am3{c:Type}(f:h→c)(x:List h):lmap f x=x.map f:=by
 induction x with
 |nil=>rfl
 |cons a x b=>exact congrArg (f a:: ·) b
theorem eR(l:List h):∀n,cF l n=if n≤l.length then some (l.take n)else none:=by
 induction l with
 |nil=>intro n;cases n with
  |zero=>rfl
  |succ n=>rfl
 |cons a l c=>intro n;cases n with
  |zero=>rfl
  |succ n=>
   show Option.casesOn (motive:=fun _=>Option (List h)) (cF l n) none (fun r=>some (a::r))=_;rw[c n];by_cases b:n≤l.length
   ·simp[b]
   ·simp[b]
theorem aaN(b:List h):∀l,mc b l=if b.length≤l.length then some (b++l.drop b.length)else none:=by
 induction b with
 |nil=>intro l;simp;rfl
 |cons x b d=>intro l;cases l with
  |nil=>rfl
  |cons a l=>
   show Option.casesOn (motive:=fun _=>Option (List h)) (mc b l) none (fun r=>some (x::r))=_;rw[d l];by_cases c:b.length≤l.length
   ·simp[c]
   ·simp[c]
theorem nu(b:List h)(l:List h):∀n,dx b l n=if n+b.length≤l.length then some (l.take n++b++l.drop (n+b.length))else none:=by
 induction l with
 |nil=>intro n;cases n with
  |zero=>show mc b []=_;rw[aaN];simp
  |succ n=>simp;rfl
 |cons a l d=>intro n;cases n with
  |zero=>show mc b (a::l)=_;rw[aaN];simp
  |succ n=>
   show Option.casesOn (motive:=fun _=>Option (List h)) (dx b l n) none (fun r=>some (a::r))=_;rw[d n];by_cases c:n+b.length≤l.length
   ·have e:n+1+b.length=(n+b.length)+1:=aa;simp[c,e]
   ·have:¬n+1+b.length≤l.length+1:=aa;simp[c,this]
theorem aD{b:Type}{x:Option h}{f:h→Option b}{y:b}:av x f=some y↔∃a,x=some a∧f a=some y:=by
 cases x with
 |none=>simp[av]
 |some a=>simp[av]
variable{m:Bool}
theorem cS{x:Option h}{y:h}:bq m x=some y↔m=true∧x=some y:=by
 cases m<;>simp[bq]
theorem beq_eq(a b:Nat):bK a b=true↔a=b:=⟨Nat.eq_of_beq_eq_true,fun h=>by subst h;exact Nat.beq_refl a⟩
theorem eN(a b:Nat):b8 a b=true↔a≤b:=⟨Nat.le_of_ble_eq_true,Nat.ble_eq_true_of_le⟩
theorem we(a b:IntKind):gN a b=decide (a=b):=by cases a<;>cases b<;>rfl
theorem qd(a b:Int):lA a b=decide (a=b):=by
 rw[Bool.eq_iff_iff];cases a<;>cases b<;>simp[lA]<;>omega
theorem n3(a b:Int):j9 a b=decide (a<b):=by
 rw[Bool.eq_iff_iff];cases a<;>cases b<;>simp[j9]<;>omega
theorem KJ(a b:UInt8):m3 a b=decide (a=b):=by
 rw[Bool.eq_iff_iff];simp[m3,vl]
theorem DB(k:IntKind):(2:Int)^k.bits=(dK k:Int):=by cases k<;>rfl
theorem J_(M:Nat)(b:0<M)(x:Int):(gA M x:Int)=x%(M:Int):=by
 cases x with
 |ofNat a=>show((a%M:Nat):Int)=_;simp
 |negSucc a=>
  show((M-1-a%M:Nat):Int)=_;have h:=eK a b;rw[Int.negSucc_emod _ aa];omega
theorem apF(M:Nat)(a:0<M)(x:Int):gA M x<M:=by
 have h:=J_ M a x;have:=Int.emod_lt_of_pos x (aa:(0:Int)<M);omega
theorem Jt(k:IntKind):0<dK k:=by cases k<;>decide
theorem zA(M m half:Nat)(b:M=2*half)(h:m<M):mH true M m=if(m:Int)≥(half:Int)then(m:Int)-(M:Int)else(m:Int):=by
 unfold mH;by_cases a:M≤2*m
 ·have e:and true (b8 M (dW 2 m))=true:=by rw[Bool.true_and];exact(eN _ _).2 a
  rw[e,ay aa];show Int.negSucc (M-1-m)=_;omega
 ·have e:and true (b8 M (dW 2 m))=false:=by
   rw[Bool.true_and];exact mB.2 (fun h=>a ((eN _ _).1 h))
  rw[e,au aa];rfl
theorem Dz(k:IntKind)(m:Nat)(h:m<dK k):mH (ob k) (dK k) m=k.wrap (m:Int):=by
 unfold qC;rw[DB];have a:(m:Int)%(dK k:Int)=m:=Int.emod_eq_of_lt aa aa;simp only[a];cases k
 case i8=>exact(zA 256 m 128 rfl h).trans (by simp[oz,oy,dK])
 case i16=>exact(zA 65536 m 32768 rfl h).trans (by simp[oz,oy,dK])
 case i32=>exact(zA 4294967296 m 2147483648 rfl h).trans (by simp[oz,oy,dK])
 case i64=>exact(zA 18446744073709551616 m 9223372036854775808 rfl h).trans (by simp[oz,oy,dK])
 all_goals rfl
theorem ot(k:IntKind)(x:Int):aG k x=k.wrap x:=by
 unfold aG;rw[Dz k _ (apF _ (Jt k) x)];unfold qC;rw[J_ _ (Jt k),DB,Int.emod_emod_of_dvd _ (Int.dvd_refl _)]
structure c4 (P:Program) (T:cE):Prop where
 info:∀t i,T.info t=some i→P.info? t=some i
variable{e:TypeId}{E:TypeDesc}
theorem c4.bQ{P:Program}{T:cE}(h:c4 P T)(a:T.bQ e=some E):P.underlying e=some E:=by
 unfold cE.bQ at a;obtain⟨i,c,a⟩:=aD.1 a;unfold Program.underlying;rw[h.info e i c];obtain⟨b,n,m,bytes,k,f,fa,z,g,ms⟩:=i;cases b<;>simp only[]at a⊢
 case named l u=>
  obtain⟨j,d,a⟩:=aD.1 a;rw[h.info u j d];simpa using a
 all_goals exact a
theorem ac0{f:Value→Option V}(a:∀v x,f v=some x→aS n x v):∀(l:List Value) (r:List V),sW f l=some r→bC n r l:=by
 intro l;induction l with
 |nil=>intro r h;cases h;exact .nil
 |cons v l d=>
  intro r h;obtain⟨x,b,h⟩:=aD.1 (show av (f v) (fun x=>av (sW f l) fun r=>some (x::r))=some r from h);obtain⟨y,c,h⟩:=aD.1 h;cases h;exact .cons (a v x b) (d y c)
theorem CM(g:aO):∀(n:Nat) (v:Value) (x:V),m0 n v=some x→aS g x v:=by
 intro n;induction n with
 |zero=>intro v x h;cases h
 |succ n f=>
  intro v x h;cases v with
  |bool b=>cases h;exact .bool b
  |int k m=>cases h;exact .int k m
  |string s=>obtain⟨⟨l⟩⟩:=s;cases h;exact .str l
  |pointer a=>cases a with
   |none=>cases h;exact .ie
   |some a=>cases h
  |slice a l c=>cases a with
   |none=>cases l with
    |zero=>cases c with
     |zero=>cases h;exact .ak
     |succ c=>cases h
    |succ l=>cases h
   |some a=>cases h
  |map r=>cases r with
   |none=>cases h;exact .jw
   |some a=>cases h
  |nilFunc=>cases h;exact .jU
  |nilIface=>cases h;exact .jV
  |agg d=>
   obtain⟨y,e,h⟩:=aD.1 (show av (sW (m0 n) d.toList) (fun r=>some (V.agg r))=some x from h);cases h;obtain⟨l⟩:=d;exact .agg (ac0 f _ _ e)
  |tuple d=>
   obtain⟨y,e,h⟩:=aD.1 (show av (sW (m0 n) d.toList) (fun r=>some (V.aK r))=some x from h);cases h;obtain⟨l⟩:=d;exact .aK (ac0 f _ _ e)
  |_=>cases h
def jd(b:aO)(F:Fr)(a:Array Value):Prop:=∀t,t<a.size→aS b (F.get V.undef t) (a.getD t undef)
variable{o:Fr}
theorem jd.mono{b:aO}(h:n.le b){a:Array Value}(r:jd n o a):jd b o a:=fun t c=>(r t c).mono h
variable{j:Option Nat}
theorem jd.put{a:Act}(r:jd n o a.tmps){v:V}(d:aS n v w):jd n (put o j v) (a.put j w).tmps:=by
 cases j with
 |none=>exact r
 |some j=>
  intro t c;have b:t<a.tmps.size:=by simpa [Act.put]using c
  show aS n ((o.set V.undef j v).get V.undef t) _;rw[bM.a_];by_cases e:j=t
  ·subst e;rw[ay rfl];simpa [Act.put,b]using d
  ·rw[au e];have:=r t b;simpa [Act.put,Array.getElem?_setIfInBounds_ne e]using this
def jc(b:aO)(F:Fr)(a:Operand→Value)(l:List Operand):Prop:=∀x∈l,∀f,gQ x=some f→aS b (f F) (a x)
def kn(G:Nat)(b:aO):Prop:=∀g,g<G→∃a,b g=some ⟨g,0,a⟩
theorem kn.mono{c:aO}(h:n.le c)(g:kn a n):kn a c:=fun b d=>let⟨l,e⟩:=g b d;⟨l,h _ _ e⟩
def abj(G n:Nat)(x:Operand):Prop:=match x with
 |.tmp t=>t<n
 |.global g=>g<G
 |_=>True
variable{k:Operand}
theorem abk{b:Act}(j:jd n o b.tmps)(i:kn a n)(c:abj a b.tmps.size k){f:Fr→V}(h:gQ k=some f):
 aS n (f o) (b.eval k):=by
 cases k with
 |tmp t=>cases h;exact j t c
 |const v=>
  obtain⟨y,l,h⟩:=aD.1 (show av (m0 20 v) (fun y=>some (fun _=>y))=some f from h);cases h;exact CM n _ _ _ l
 |global g=>
  cases h;obtain⟨m,e⟩:=i g c;exact .ptr e
 |func d=>cases h;exact .func d .nil .nil
variable{t:List (Fr→V)}
theorem ny{l:List Operand}(h:hL l=some t):∀ {φ:aO}{F:Fr}{ρ:Operand→Value},jc φ F ρ l→bC φ (vals t F) (l.map ρ):=by
 induction l generalizing t with
 |nil=>cases h;exact fun _=>.nil
 |cons x l e=>
  obtain⟨f,b,h⟩:=aD.1 (show av (gQ x) (fun f=>av (hL l) fun r=>some (f::r))=some t from h);obtain⟨r,c,h⟩:=aD.1 h;cases h;intro φ F ρ a;exact .cons (a x aJ f b) (e c (fun y d=>a y (by simp[d])))
def pG(w:World)(c i:Nat):Prop:=(∃v,w.cell? ⟨c,i,none⟩=some v)∧w.frozen? ⟨c,i,none⟩=false
structure gW (w w':World):Prop where
 tape:w'.tape=w.tape
 os:w'.os=w.os
 output:w'.output=w.output
 free:∀ {c i:Nat},pG w c i→pG w' c i
 shape:∀(c:Nat) (cs:Array Value) (t:TypeId) (fr:Nat×Nat),w.heap[c]? =some (.cells cs t fr)→∃cs':Array Value,w'.heap[c]? =some (.cells cs' t fr)∧cs'.size=cs.size
theorem gW.refl(w:World):gW w w:=⟨rfl,rfl,rfl,fun h=>h,fun _ a _ _ h=>⟨a,h,rfl⟩⟩
variable{q:World}
theorem gW.trans{b c:World}(h:gW q b)(a:gW b c):gW q c:=⟨a.tape.trans h.tape,a.os.trans h.os,a.output.trans h.output,fun x=>a.free (h.free x),fun k g t d x=>let⟨e,l,i⟩:=h.shape k g t d x;let⟨f,m,j⟩:=a.shape k e t d l;⟨f,m,j.trans i⟩⟩
theorem pG.of_heap{w':World}(h:w'.heap[a]? =q.heap[a]?)(b:pG q a g):pG w' a g:=by
 unfold pG World.cell? World.frozen? at*;rw[h];exact b
theorem pG.lt(h:pG q a g):a<q.heap.size:=by
 obtain⟨⟨v,b⟩,_⟩:=h;unfold World.cell? at b;rcases k4 a q.heap.size with h1|h1
 ·exact h1
 ·simp[Array.getElem?_eq_none h1]at b
theorem gW.alloc(w:World)(x:Obj):gW w (w.alloc x):=⟨rfl,rfl,rfl,fun h=>pG.of_heap (by
 have:=h.lt;show(w.heap.push x)[_]? =_;simp[uY,Nat.ne_of_lt this]) h,fun c a _ _ h=>⟨a,by
 show(w.heap.push x)[c]? =_;rw[uY,au (Nat.ne_of_lt (uX.1 h).1)];exact h,rfl⟩⟩
def pK(c:aO)(a:List (V×V))(b:List MapEntry):Prop:=
 b.length=a.length∧∀i k v,a[i]? =some (k,v)→∃e:MapEntry,b[i]? =some e∧aS c k e.key∧aS c v e.val∧e.born=i
def sH(g:aO)(w:World)(a:Nat):nj→Prop
 |.map b=>∃d,w.heap[a]? =some (.map ⟨d⟩ b.length)∧pK g b d
 |.iter m since left h e=>∃f seen,g m=some f∧w.heap[a]? =some (.mapIter (some f.c) since ⟨seen⟩ e)∧(seen≠[]→0<e)∧seen.getLast?=h∧(∀i,i<since→i∉seen→i∈left)∧(∀i∈left,i<since∧i∉seen)
 |.ro x=>w.heap[a]? =some x
variable{L:List (V×V)}{S:List MapEntry}
theorem pK.mono{b:aO}(h:n.le b)(r:pK n L S):pK b L S:=
 ⟨r.1,fun i k v e=>let⟨x,c,d,f,g⟩:=r.2 i k v e;⟨x,c,d.mono h,f.mono h,g⟩⟩
theorem sH.mono{k:aO}(h:n.le k){j:World}(i:j.heap[g]? =q.heap[g]?){o:nj}(r:sH n q g o):sH k j g o:=by
 cases o with
 |map p=>obtain⟨x,c,f⟩:=r;exact⟨x,i.trans c,f.mono h⟩
 |iter m a b d e=>obtain⟨x,s,c,f,l⟩:=r;exact⟨x,s,h _ _ c,i.trans f,l⟩
 |ro x=>exact i.trans r
structure ox (φ:aO) (H:ag) (w:World) (c:Nat) (x:Obj):Prop where
 obj:w.heap[c]? =some x
 kind:∃cs t fr,x=.cells cs t fr
 off:∀b l,φ b=some l→l.c=c→H.get b=.none
variable{c:ag}
theorem ox.lt{x:Obj}(h:ox n c q a x):a<q.heap.size:=(uX.1 h.obj).1
variable{J:ag}
theorem ox.keep{e:aO}{d:World}{x:Obj}(h:ox n c q a x)(f:d.heap[a]? =q.heap[a]?)(g:∀b l,e b=some l→l.c=a→J.get b=.none):ox e J d a x:=⟨f.trans h.obj,h.kind,g⟩
variable{Q:Loc}
theorem ox.r6{x:Obj}(h:ox n c q a x)(b:n g=some Q)(d:c.get g≠ .none):Q.c≠a:=fun e=>d (h.off g Q b e)
structure Rel (φ:aO) (H:ag) (w:World):Prop where
 cell:∀ {b:Nat}{l:Loc}{cs:List V}{g i:Nat}{v:V},φ b=some l→H.get b=.cells cs g→H.gh b g=true→cs[i]? =some v→∃v',w.cell? ⟨l.c,l.base+i,none⟩=some v'∧aS φ v v'
 room:∀ {b:Nat}{l:Loc}{i:Nat},φ b=some l→i<l.ji→(∃v',w.cell? ⟨l.c,l.base+i,none⟩=some v')∧w.frozen? ⟨l.c,l.base+i,none⟩=false
 len:∀ {b:Nat}{l:Loc}{cs:List V}{g:Nat},φ b=some l→H.get b=.cells cs g→cs.length≤l.ji
 inj:∀ {b b':Nat}{l l':Loc},φ b=some l→φ b'=some l'→l.c=l'.c→b≠b'→(∃cs cs' g,g≠0∧H.get b=.cells cs g∧H.get b'=.cells cs' g)∨(H.get b=.none∧H.get b'=.none)
 top:∀ {b:Nat},H.next≤b→φ b=none∧H.get b=.none
 loc:∀ {b:Nat}{l:Loc},φ b=some l→l.c<w.heap.size
 mem:∀ {b:Nat}{cs:List V}{g leaf si:Nat},H.get b=.cells cs g→g≠0→H.get g=.b5 leaf si→b≤leaf
 lp:∀ {g leaf si:Nat},H.get g=.b5 leaf si→si≤leaf
 cv:∀ {b:Nat}{l:Loc}{o:nj},φ b=some l→H.get b=.cv o→l.base=0∧sH φ w l.c o
 fj:∀ {c:Nat}{x:Obj},φ.im c=some x→ox φ H w c x
 lu:∀ {b:Nat}{cs:List V}{g:Nat},H.get b=.cells cs g→g<H.next
structure Ext (φ:aO) (H:ag) (w:World) (ψ:aO) (H':ag) (w':World):Prop where
 rel:Rel ψ H' w'
 le:φ.le ψ
 fresh:∀ {b:Nat}{l:Loc},φ b=none→ψ b=some l→H.next≤b∧(w.heap.size≤l.c∨∃b0 l0,φ b0=some l0∧l0.c=l.c)
 mQ:∀ {b:Nat},b<H.next→φ b=none→(∀x y,H.get b≠ .b5 x y)→H'.get b=H.get b
 next:H.next≤H'.next
 kR:∀ {c:Nat},c<w.heap.size→(∀b l,φ b=some l→l.c≠c)→w'.heap[c]? =w.heap[c]?
 size:w.heap.size≤w'.heap.size
 same:gW w w'
 iU:∀ {b:Nat}{l:Loc},φ b=some l→H.get b=.none→H'.get b=.none∧w'.heap[l.c]? =w.heap[l.c]?
 l6:∀(c:Nat) (x:Obj),ψ.im c=some x→φ.im c=some x∨w.heap.size≤c∨∃b l,φ b=some l∧l.c=c∧H.get b≠ .none
theorem Ext.refl(h:Rel n c q):Ext n c q n c q:=
 ⟨h,aO.le_refl n,fun a b=>absurd (a.symm.trans b) aJ,fun _ _ _=>rfl,aR _,fun _ _=>rfl,aR _,gW.refl q,fun _ h=>⟨h,rfl⟩,fun _ _ e=>.inl e⟩
theorem Ext.trans{p G:aO}{y:ag}{E F:World}(h:Ext n c q p J E)(h':Ext p J E G y F):Ext n c q G y F:=by
 refine⟨h'.rel,aO.le_trans h.le h'.le,?_,?_,cI h.next h'.next,?_,cI h.size h'.size,h.same.trans h'.same,fun d m=>let⟨K,L⟩:=h.iU d m;let⟨M,N⟩:=h'.iU (h.le _ _ d) K;⟨M,N.trans L⟩,?_⟩
 rotate_left 3
 ·intro s x e;rcases h'.l6 s x e with e|e|⟨b,l,d,m,z⟩
  ·exact h.l6 s x e
  ·exact .inr (.inl (cI h.size e))
  ·cases a:n b with
   |some w=>
    have:=h.le b w a;rw[d]at this;cases this;exact .inr (.inr ⟨b,l,a,m,fun j=>z (h.iU a j).1⟩)
   |none=>
    rcases(h.fresh a d).2 with j|⟨f,i,j,A⟩
    ·exact .inr (.inl aa)
    ·refine .inr (.inr ⟨f,i,j,A.trans m,fun H=>?_⟩);rcases h.rel.inj d (h.le f i j) A.symm (fun I=>by rw[I,j]at a;cases a)with⟨Q,R,g,_,_,cu⟩|⟨P,_⟩
     ·rw[(h.iU j H).1]at cu;cases cu
     ·exact z P
 ·intro b l r k;cases o:p b with
  |some w=>
   have:=h'.le b w o;rw[this]at k;cases k;exact h.fresh r o
  |none=>
   obtain⟨h2,t⟩:=h'.fresh o k;refine⟨cI h.next h2,?_⟩
   rcases t with t|⟨f,i,a,d⟩
   ·exact .inl (cI h.size t)
   ·cases u:n f with
    |some O=>
     have:=h.le f O u;rw[this]at a;cases a;exact .inr ⟨f,i,u,d⟩
    |none=>
     obtain⟨_,B⟩:=h.fresh u a;rw[d]at B;exact B
 ·intro b o r D;have k:J.get b=c.get b:=h.mQ o r D;have h2:p b=none:=by
   cases e:p b with
   |none=>rfl
   |some l=>exact absurd (h.fresh r e).1 aa
  rw[←k];exact h'.mQ (ei o h.next) h2 (by rw[k];exact D)
 ·intro s C v;rw[←h.kR C v];refine h'.kR (ei C h.size) (fun b l e=>?_);cases a:n b with
  |some i=>
   have:=h.le b i a;rw[this]at e;cases e;exact v b l a
  |none=>
   rcases(h.fresh a e).2 with k|⟨f,i,d,m⟩
   ·omega
   ·rw[←m];exact v f i d
structure rS (φ:aO) (sE:eg) (ji:Nat) (w w':World):Prop where
 size:w'.heap.size=w.heap.size+1
 old:∀c,c<w.heap.size→w'.heap[c]? =w.heap[c]?
 same:gW w w'
 obj:∃cs,sE=.cells cs 0∧cs.length≤ji∧(∀i v,cs[i]? =some v→∃v',w'.cell? ⟨w.heap.size,i,none⟩=some v'∧aS φ v v')∧
  (∀i,i<ji→(∃v',w'.cell? ⟨w.heap.size,i,none⟩=some v')∧w'.frozen? ⟨w.heap.size,i,none⟩=false)
def fH(P:Program)(φ:aO)(ρ:Operand→Value)(o:Oper)(r:bx):Prop:=∀w,match r with
 |.val v=>∃a,(execOp ρ o).run P w=.ok (.value a) w∧aS φ v a
 |.new f g=>∃a d c,(execOp ρ o).run P w=.ok (.value a) d∧rS φ (.cells f 0) c w d∧∀(e:aO) (b:Nat),e b=some ⟨w.heap.size,0,c⟩→aS e (g.mk b) a
section
variable {P:Program}{φ:aO}{ρ:Operand→Value}{dst:Option Tmp}{ty:TypeId}{pos:String}{after:Array Edge}{guard:Option (Nat×Bool)}
theorem aqa(x:Int)(n:Nat):ql x n=x.fdiv (2^n):=by
 have d:(0:Int)<2^n:=Int.pow_pos aj;rw[Int.fdiv_eq_ediv_of_nonneg _ aa];cases x with
 |ofNat a=>
  show((a/2^n:Nat):Int)=_;simp
 |negSucc a=>
  show Int.negSucc (a/2^n)=_;have e:((2:Int)^n)=((2^n:Nat):Int):=aJ;have b:=Int.negSucc_ediv a d;rw[b,e];have c:(a:Int).ediv ((2^n:Nat):Int)=((a/2^n:Nat):Int):=rfl;rw[c];omega
theorem B0(a b:Nat):dO a b=min a b:=by
 unfold dO;by_cases h:a≤b
 ·rw[(eN a b).2 h];simp;omega
 ·have:b8 a b=false:=mB.2 (fun e=>h ((eN a b).1 e));rw[this];simp;omega
theorem Mk(k:IntKind):gq k=k.bits:=by cases k<;>rfl
theorem toNat_ofInt(k:IntKind)(x:Int):(BitVec.ofInt k.bits x).toNat=gA (dK k) x:=by
 have h:=J_ (dK k) (Jt k) x;have e:((2^k.bits:Nat):Int)=(dK k:Int):=by rw[←DB];simp
 rw[BitVec.toNat_ofInt,e,←h];simp
theorem abw(k:IntKind):2^k.bits=dK k:=by cases k<;>rfl
variable{p:IntKind}{r:Int}{G:bx}
theorem ajw{o:BinOp}{f:IntKind→Int→IntKind→Int→Option bx}(q:BC o=some f){l:IntKind}{b:Int}(a:f p r l b=some G)
 {s:TypeId}{y:Operand} (c:ρ k=.int p r) (d:ρ y=.int l b):fH P φ ρ ⟨dst,.binOp o e k y s,ty,pos,after,guard⟩ G:=by
 intro w;cases o<;>simp only[BC,Option.some.injEq,reduceCtorEq]at q<;>subst q<;>simp only[]at a
 case shl=>
  cases b with
  |ofNat n=>
   cases a;refine⟨_,?_,.int _ _⟩;simp[execOp,eqGuard,c,d,binOp,Op.shift,ot,B0,Mk];intro h;omega
  |negSucc n=>cases a
 case shr=>
  cases b with
  |ofNat n=>
   cases a;refine⟨_,?_,.int _ _⟩;simp[execOp,eqGuard,c,d,binOp,Op.shift,aqa,B0,Mk];intro h;omega
  |negSucc n=>cases a
 case quo=>
  obtain⟨i,j⟩:=cS.1 a;clear a;simp[we,qd]at i;obtain⟨rfl,m⟩:=i;cases j;refine⟨_,?_,.int _ _⟩;simp[execOp,eqGuard,c,d,binOp,Op.intDiv,ot,m]
 case rem=>
  obtain⟨i,j⟩:=cS.1 a;clear a;simp[we,qd]at i;obtain⟨rfl,m⟩:=i;cases j;refine⟨_,?_,.int _ _⟩;simp[execOp,eqGuard,c,d,binOp,Op.intDiv,m]
 all_goals
  obtain⟨i,j⟩:=cS.1 a;clear a;rw[we,decide_eq_true_eq]at i;subst i;cases j
 case add=>
  have g:aG p (Int.add r b)=p.wrap (r+b):=ot _ _;rw[g];exact⟨_,by simp[execOp,eqGuard,c,d,binOp,Op.intArith],.int _ _⟩
 case sub=>
  have g:aG p (Int.sub r b)=p.wrap (r-b):=ot _ _;rw[g];exact⟨_,by simp[execOp,eqGuard,c,d,binOp,Op.intArith],.int _ _⟩
 case mul=>
  have g:aG p (Int.mul r b)=p.wrap (r*b):=ot _ _;rw[g];exact⟨_,by simp[execOp,eqGuard,c,d,binOp,Op.intArith],.int _ _⟩
 case and=>
  refine⟨_,?_,.int _ _⟩;have g:Nat.land (gA (dK p) r) (gA (dK p) b)=(BitVec.ofInt p.bits r&&&BitVec.ofInt p.bits b).toNat:=by
   rw[BitVec.toNat_and,toNat_ofInt,toNat_ofInt];rfl
  rw[g,Dz p _ (by have:=(BitVec.ofInt p.bits r&&&BitVec.ofInt p.bits b).isLt;rwa[abw]at this)];simp[execOp,eqGuard,c,d,binOp,Op.intBits]
 case or=>
  refine⟨_,?_,.int _ _⟩;have g:Nat.lor (gA (dK p) r) (gA (dK p) b)=(BitVec.ofInt p.bits r|||BitVec.ofInt p.bits b).toNat:=by
   rw[BitVec.toNat_or,toNat_ofInt,toNat_ofInt];rfl
  rw[g,Dz p _ (by have:=(BitVec.ofInt p.bits r|||BitVec.ofInt p.bits b).isLt;rwa[abw]at this)];simp[execOp,eqGuard,c,d,binOp,Op.intBits]
 all_goals
  refine⟨_,?_,.bool _⟩;simp[execOp,eqGuard,c,d,binOp,Op.intCmp,qd,n3]
  try first
   |rfl
   |(rw[Bool.eq_iff_iff];simp;done)
   |(rw[Bool.eq_iff_iff];simp;omega)
end
section
variable {P:Program}{φ:aO}{ρ:Operand→Value}{dst:Option Tmp}{ty:TypeId}{pos:String}{after:Array Edge}{guard:Option (Nat×Bool)}
theorem amB(x:List UInt8):∀y,fE m3 x y=(x==y):=by
 induction x with
 |nil=>intro y;cases y<;>rfl
 |cons a x c=>intro y;cases y with
  |nil=>rfl
  |cons b y=>
   show and (m3 a b) (fE m3 x y)=_;rw[c y,KJ];rfl
variable{i:List UInt8}{G:bx}
theorem aqP{b:BinOp}{f:List UInt8→List UInt8→Option bx}(c:CH b=some f){u:List UInt8}(a:f i u=some G)
 {n:TypeId}{y:Operand} (g:ρ k=.string ⟨⟨i⟩⟩) (h:ρ y=.string ⟨⟨u⟩⟩):fH P φ ρ ⟨dst,.binOp b e k y n,ty,pos,after,guard⟩ G:=by
 intro w;cases b<;>simp only[CH,Option.some.injEq,reduceCtorEq]at c<;>subst c<;>simp only[]at a
 case add=>
  obtain⟨d,m⟩:=cS.1 a;clear a;cases m;rw[eN,gx,gx]at d;refine⟨_,?_,.str _⟩;have j:=run_string_add_sum (P:=P) w ⟨⟨i⟩⟩ ⟨⟨u⟩⟩ d;have l:=ByteArray.mk_append_mk i u;simp only[execOp,eqGuard,g,h,binOp];simp[j,l,iV]
 all_goals
  cases a;refine⟨_,?_,.bool _⟩;simp[execOp,eqGuard,g,h,binOp,Op.stringOp,amB]
theorem Bo{d:BinOp}{neg:Bool}(r:d=if neg then .neq else .eql){B:TypeId}{y:Operand}{a f:Value}(v:ρ k=a)(x:ρ y=f)
 (h:a≠ .nilIface) (i:∀c,a≠ .agg c) (p:∀b n,a≠ .int b n) (o:∀b n,a≠ .float b n) (j:∀b n A,a≠ .complex b n A) (u:∀s,a≠ .string s)
 (z:(Op.equalIn (9999+1) e a f).run P q=.ok m q):
 (execOp ρ ⟨dst,.binOp d e k y B,ty,pos,after,guard⟩).run P q=.ok (.value (.bool (xor neg m))) q:=by
 have l:(Op.equal e a f).run P q=.ok m q:=z;cases neg
 ·have g:d=.eql:=r;subst g;simp only[execOp,eqGuard,v,x]
  cases a<;>first
   |exact absurd rfl h
   |exact absurd rfl (i _)
   |exact absurd rfl (p _ _)
   |exact absurd rfl (o _ _)
   |exact absurd rfl (j _ _ _)
   |exact absurd rfl (u _)
   |(simp[binOp,l])
 ·have g:d=.neq:=r;subst g;simp only[execOp,eqGuard,v,x]
  cases a<;>first
   |exact absurd rfl h
   |exact absurd rfl (i _)
   |exact absurd rfl (p _ _)
   |exact absurd rfl (o _ _)
   |exact absurd rfl (j _ _ _)
   |exact absurd rfl (u _)
   |(simp[binOp,l])
section
variable {t:TypeId}{w:World} (n:Nat)
theorem aha(c:P.underlying t=some .bool)(a b:Bool):(Op.equalIn (n+1) t (.bool a) (.bool b)).run P w=.ok (a==b) w:=by
 simp[Op.equalIn,run_underlying c w]
theorem ahb(a:P.underlying t=some (.slice e))(b:Option Addr)(p q r s:Nat):(Op.equalIn (n+1) t (.slice none p q) (.slice b r s)).run P w=.ok b.isNone w:=by
 simp[Op.equalIn,run_underlying a w]
theorem Y9(a:P.underlying t=some (.slice e))(b:Addr)(p q r s:Nat):(Op.equalIn (n+1) t (.slice (some b) p q) (.slice none r s)).run P w=.ok false w:=by
 simp[Op.equalIn,run_underlying a w]
end
variable{s:V}
theorem ag'{z:BinOp}{neg:Bool}(f:z=if neg then .neq else .eql){D:TypeId}(d:P.underlying e=some E){b:V}{l m:Value}(r:aS φ s l)(u:aS φ b m)
 (C:E=.bool∨∃c,E=.slice c) (v:vV E s=true) (a:IG neg [s,b]=some G)
 {y:Operand} (g:ρ k=l) (i:ρ y=m):fH P φ ρ ⟨dst,.binOp z e k y D,ty,pos,after,guard⟩ G:=by
 intro w;rcases C with rfl|⟨c,rfl⟩
 ·cases r<;>simp only[vV,kj]at v;cases u<;>first|(cases a;done)|skip
  rename_i p q;cases a;refine⟨_,Bo f g i aJ aJ aJ aJ aJ aJ (aha 9999 d p q),?_⟩;have:(p==q)=xor p (!q):=by cases p<;>cases q<;>rfl
  rw[this];exact .bool _
 ·have x:∀ {n:Nat}{o:List V},s=.row n o→b=.ak→n≠0∧G=.val (.bool neg):=by
   intro n o A B;subst A B;have h:Bool.casesOn (motive:=fun _=>Option bx) (bK n 0) (some (.val (.bool neg))) aW=some G:=a;cases j:bK n 0 with
   |true=>rw[j]at h;cases h
   |false=>rw[j]at h;cases h;exact⟨(fun c=>by subst c;cases j),rfl⟩
  cases r<;>simp only[vV,kj]at v<;>cases u<;>first|(cases a;done)|skip
  all_goals first
   |exact absurd rfl (x rfl rfl).1
   |(obtain⟨_,rfl⟩:=x rfl rfl
     exact⟨_,Bo f g i aJ aJ aJ aJ aJ aJ (Y9 9999 d _ _ _ _ _),by cases neg<;>exact .bool _⟩)
   |skip
  all_goals
   cases a
   first
   |exact⟨_,Bo f g i aJ aJ aJ aJ aJ aJ (Y9 9999 d _ _ _ _ _),by cases neg<;>exact .bool _⟩
   |exact⟨_,Bo f g i aJ aJ aJ aJ aJ aJ (ahb 9999 d _ _ _ _ _),by cases neg<;>exact .bool _⟩
theorem an6(a:ρ k=.bool m):fH P φ ρ ⟨dst,.unOp .not e k,ty,pos,after,guard⟩ (.val (.bool (!m))):=by
 intro w;exact⟨_,by simp[execOp,a,Op.unary],.bool _⟩
variable{p:IntKind}{r:Int}
theorem anU(b:ρ k=.int p r):fH P φ ρ ⟨dst,.unOp .neg e k,ty,pos,after,guard⟩ (.val (.int p (aG p (Int.sub (.ofNat 0) r)))):=by
 intro w;have a:aG p (Int.sub (.ofNat 0) r)=p.wrap (0-r):=ot _ _;rw[a];exact⟨_,by simp[execOp,b,Op.unary,Op.intArith],.int _ _⟩
theorem anx{v:V}(a:aS φ v (ρ k)):fH P φ ρ ⟨dst,.move k,ty,pos,after,guard⟩ (.val v):=
 fun w=>⟨_,by simp[execOp],a⟩
theorem abr{x y:Operand}(a:ρ k=.bool m){v:V}(b:aS φ v (if m then ρ x else ρ y)):fH P φ ρ ⟨dst,.pick k x y,ty,pos,after,guard⟩ (.val v):=by
 intro w;exact⟨_,by simp[execOp,a,asBool],b⟩
variable{b:List V}
theorem ahx(c:aS φ (.aK b) (ρ k)){v:V}(f:b[a]? =some v):fH P φ ρ ⟨dst,.extract k a,ty,pos,after,guard⟩ (.val v):=by
 intro w;generalize g:ρ k=y at c
 cases c with
 |aK h=>
  obtain⟨i,d,e⟩:=h.get a v f;refine⟨i,?_,e⟩;simp[execOp,g,Instr.extract,d]
theorem aa8{a:Addr}(c:ρ k=.pointer (some a)){v:V}(b:aS φ v (.pointer (some a))):fH P φ ρ ⟨dst,.nilCheck k,ty,pos,after,guard⟩ (.val v):=by
 intro w;exact⟨_,by simp[execOp,c],b⟩
theorem agi{f:IntKind}(c:ρ k=.int f r){d:TypeId}{ds:TypeDesc}(b:P.underlying e=some ds)(a:P.underlying d=some (.int p)):
 fH P φ ρ ⟨dst,.convert e d k,ty,pos,after,guard⟩ (.val (.int p (aG p r))):=by
 intro w;rw[ot];exact⟨_,by simp[execOp,c,convert,run_underlying b,run_underlying a,Conv.intToInt],.int _ _⟩
variable{A:FuncId}{T:Array Operand}
theorem anj{a:Array Operand}{c:List V}(f:bC φ b (T.toList.map ρ))(g:bC φ c (a.toList.map ρ)):
 fH P φ ρ ⟨dst,.makeFunc (.func A) T a,ty,pos,after,guard⟩ (.val (.func A b c)):=by
 intro w;refine⟨.func (.func A) (T.map ρ) (a.map ρ),by simp[execOp,Instr.makeFunc],?_⟩;have d:T.map ρ=⟨T.toList.map ρ⟩:=by apply rI;simp
 have e:a.map ρ=⟨a.toList.map ρ⟩:=by apply rI;simp
 rw[d,e];exact .func A f g
end
theorem bC.abf:∀ {v:List V}{c:List Value},v.length=c.length→(∀(i:Nat) (x:V),v[i]? =some x→∃d,c[i]? =some d∧aS n x d)→bC n v c:=by
 intro v;induction v with
 |nil=>intro c h _;cases c with
  |nil=>exact .nil
  |cons a b=>simp at h
 |cons a v k=>intro c h f;cases c with
  |nil=>simp at h
  |cons b c=>
   obtain⟨d,e,g⟩:=f 0 a aJ;simp at e;subst e;exact .cons g (k (by simpa using h) (fun i x j=>by simpa using f (i+1) x (by simpa using j)))
theorem A5{v:V}(h:aS n v w)(b:bP v=true):bC n (cellsOf v) w.cells.toList:=by
 cases h with
 |agg h=>exact h
 |any w=>cases b
 |cell a=>
  have:∀w:Value,w.oneCell'=true→w.cells.toList=[w]:=by
   intro w h;cases w<;>first|rfl|cases h
  rw[this _ a];exact .cons (.cell a) .nil
 |_=>exact .cons (by constructor<;>assumption) .nil
theorem yK(a:List h):∀n,(rep a n).length=n*a.length:=by
 intro n;induction n with
 |zero=>simp;rfl
 |succ n b=>
  show(ez a (rep a n)).length=_;rw[iV,bt,b,pO,iy]
theorem apC(b:List h):∀n i,i<n*b.length→(rep b n)[i]? =b[i%b.length]? :=by
 intro n;induction n with
 |zero=>intro i c;omega
 |succ n e=>
  intro i c;show(ez b (rep b n))[i]? =_;rw[iV];by_cases d:i<b.length
  ·rw[k3 d,jr d]
  ·rw[pI aa,e _ (by rw[pO]at c;omega)];rw[Nat.mod_eq_sub_mod (a:=i) aa]
variable{D:List Value}
theorem bC.getD{v:List V}(h:bC n v D)(c:a<v.length):∃x b,v[a]? =some x∧D[a]? =some b∧aS n x b:=by
 obtain⟨b,d,e⟩:=h.get a v[a] (by simp[c]);exact⟨_,b,by simp[c],d,e⟩
variable{b:List V}
theorem J9{z:Array Value}(h:bC n b z.toList)(d:Nat):bC n (rep b d) ((Array.range (d*z.size)).map (z[·%z.size]!)).toList:=by
 have f:b.length=z.size:=by simpa using h.length
 refine .abf (by simp[yK,f]) (fun i x c=>?_);have a:i<d*b.length:=by
  have:=(fo.1 c).1;rwa[yK]at this
 rw[apC _ _ _ a]at c;obtain⟨g,e,j⟩:=h.get _ _ c;refine⟨g,?_,j⟩;rw[f]at a e;have k:z[i%z.size]? =some g:=by simpa using e
 simp[a,getElem!_def,k]
theorem ahZ(a:Nat):∀(l:List h) (k:Nat) (L:List h),a+k+l.length≤L.length→
 ((l.zipIdx k).foldl (fun(d:Array h) (x:h×Nat)=>d.setIfInBounds (a+x.2) x.1) ⟨L⟩)=⟨L.take (a+k)++l++L.drop (a+k+l.length)⟩:=by
 intro l;induction l with
 |nil=>intro k L b;simp
 |cons c l i=>
  intro k L b;simp only[di]at b;simp only[List.zipIdx_cons,List.foldl_cons];have e:(⟨L⟩:Array h).setIfInBounds (a+k) c=⟨L.set (a+k) c⟩:=aJ;rw[e,i (k+1) _ (by simp;omega)];congr 1;have f:a+(k+1)=(a+k)+1:=aa;rw[f,List.take_set,List.drop_set_of_lt aa];rw[jZ aa];have g:(List.take (a+k) L++[L[a+k]]).set (a+k) c=List.take (a+k) L++[c]:=by
   rw[List.set_append_right _ _ (by simp;omega)];simp;have:a+k-min (a+k) L.length=0:=aa;rw[this];rfl
  rw[g];simp[jq,iy,Nat.add_left_comm]
theorem aqG{a:List V}{g c:Array Value}(h:bC n b g.toList)(d:bC n a c.toList){off:Nat}(k:off+b.length≤a.length):
 bC n (a.take off++b++a.drop (off+b.length)) (g.zipIdx.foldl (fun(a:Array Value) (x:Value×Nat)=>a.setIfInBounds (off+x.2) x.1) c).toList:=by
 have f:=h.length;have j:=d.length;obtain⟨L⟩:=c;obtain⟨l⟩:=g;have e:=ahZ off l 0 L (by simp at f j;omega);have i:((⟨l⟩:Array Value).zipIdx.foldl (fun(a:Array Value) (x:Value×Nat)=>a.setIfInBounds (off+x.2) x.1) ⟨L⟩)=((l.zipIdx 0).foldl (fun(a:Array Value) (x:Value×Nat)=>a.setIfInBounds (off+x.2) x.1) ⟨L⟩):=by
  rw[←Array.foldl_toList];simp
 rw[i,e];simp only[cO];simp at f;rw[f];exact((d.take off).append h).append (d.drop (off+l.length))
theorem IT{place:Nat→Option (Nat×Nat)}:∀(b:List (Nat×Nat)) (a:List Nat) (d:List V) (e:List Value) (c r:List V) (f:Array Value),
 a.length=b.length→(∀(j:Nat) (p:Nat×Nat),b[j]? =some p→∃i,a[j]? =some i∧place i=some p)→bC n d e→e.length=b.length→bC n c f.toList→nZ b d c=some r→
 ∃m,Instr.fill place f (a.zip e)=some m∧bC n r m.toList:=by
 intro b;induction b with
 |nil=>
  intro a d e c r f l _ x o k h;cases a with
  |nil=>cases h;exact⟨f,rfl,k⟩
  |cons=>simp at l
 |cons p b L=>
  intro a d e c r f l w x o k h;cases x with
  |nil=>simp at o
  |cons J K=>
   rename_i v y d e;cases a with
   |nil=>simp at l
   |cons i a=>
    obtain⟨s,h⟩:=cS.1 (show bq (and (bP v) (bK (cP (cellsOf v)) p.2)) (av (dx (cellsOf v) c p.1) fun c=>nZ b d c)=some r from h);obtain⟨M,g,h⟩:=aD.1 h;rw[cz,beq_eq,gx]at s;obtain⟨A,s⟩:=s;rw[nu]at g;split at g
    ·rename_i B;cases g;have t:=A5 J A;have C:=t.length;have z:=k.length;obtain⟨N,u,E⟩:=w 0 p aJ;simp at u;subst u;have H:=aqG (off:=p.1) t k B;obtain⟨m,G,I⟩:=L a d e _ r _ (by simpa using l) (fun j q F=>by simpa using w (j+1) q (by simpa using F)) K (by simpa using o) H h;refine⟨m,?_,I⟩;simp only[List.zip_cons_cons,Instr.fill,E];have D:¬((decide (y.cells.size≠p.2)||decide (p.1+y.cells.size>f.size))=true):=by
      simp at C z⊢;omega
     rw[au D];exact G
    ·cases g
theorem yw{a:Array Value}(h:bC n b a.toList)(w:World)(e:TypeId):rS n (.cells b 0) a.size w (w.alloc (.cells a e)):=by
 refine⟨aJ,fun c j=>?_,gW.alloc _ _,b,rfl,?_,fun i v k=>?_,fun i d=>⟨?_,?_⟩⟩
 ·show(w.heap.push _)[c]? =_;simp[uY,Nat.ne_of_lt j]
 ·have:=h.length;simp at this;omega
 ·obtain⟨m,f,g⟩:=h.get i v k;exact⟨m,by rw[World.cell?_alloc_new];simpa using f,g⟩
 ·exact⟨a[i],by rw[World.cell?_alloc_new];simp[d]⟩
 ·show(match(w.heap.push (.cells a e (0,0)))[w.heap.size]? with|some (.cells _ _ (l,d))=>decide (l≤i)&&decide (i<d)|_=>false)=false;simp
section
variable {P:Program}{φ:aO}{ρ:Operand→Value}{dst:Option Tmp}{ty:TypeId}{pos:String}{after:Array Edge}{guard:Option (Nat×Bool)}{T:cE}
theorem aqh(hT:c4 P T)(h:iw T e=some a):∃i,P.info? e=some i∧i.size=a:=by
 obtain⟨i,b,h⟩:=aD.1 (show av (T.info e) (fun i=>some i.size)=some a from h);cases h;exact⟨i,hT.info e i b,rfl⟩
theorem kV(hT:c4 P T)(h:iw T e=some a)(w:World):(sizeOf e).run P w=.ok a w:=by
 obtain⟨i,b,rfl⟩:=aqh hT h;simp[sizeOf,typeInfo,b]
variable{N:TypeInfo}
theorem o_(h:P.info? e=some N)(w:World):(typeInfo e).run P w=.ok N w:=by
 simp[typeInfo,h]
theorem aq_:∀ {n:Nat}{v:Value}{x:V},m0 n v=some x→bP x=true:=by
 intro n v x h;cases n with
 |zero=>cases h
 |succ n=>
  cases v with
  |pointer a=>cases a<;>cases h;rfl
  |slice a l c=>cases a<;>cases l<;>cases c<;>cases h;rfl
  |map r=>cases r<;>cases h;rfl
  |agg b=>
   obtain⟨y,_,h⟩:=aD.1 (show av (sW (m0 n) b.toList) (fun r=>some (V.agg r))=some x from h);cases h;rfl
  |tuple b=>
   obtain⟨y,_,h⟩:=aD.1 (show av (sW (m0 n) b.toList) (fun r=>some (V.aK r))=some x from h);cases h;rfl
  |_=>cases h<;>rfl
theorem xe(hT:c4 P T)(h:zeroCells T e=some b):∃i z,P.info? e=some i∧i.zero=some z∧∀φ,bC φ b z.cells.toList:=by
 obtain⟨i,c,h⟩:=aD.1 (show av (T.info e) (fun i=>av i.zero fun z=>av (m0 20 z) fun v=>some (cellsOf v))=some b from h);obtain⟨z,d,h⟩:=aD.1 h;obtain⟨v,a,h⟩:=aD.1 h;cases h;exact⟨i,z,hT.info e i c,d,fun φ=>A5 (CM φ _ _ _ a) (aq_ a)⟩
theorem ry(h:P.info? e=some N)(b:N.zero=some w)(a:World):(zeroValue e).run P a=.ok w a:=by
 simp[zeroValue,typeInfo,h,b]
theorem Cr(hT:c4 P T)(h:T.isAgg e=some m)(w:World):(isAgg e).run P w=.ok m w:=by
 obtain⟨d,a,h⟩:=aD.1 (show av (T.bQ e) _=some m from h);have b:=run_underlying (hT.bQ a) w;cases d<;>simp only[Option.some.injEq]at h<;>subst h<;>simp[isAgg,b]
theorem ad0(hT:c4 P T)(h:zeroCells T e=some b):fH P φ ρ ⟨dst,.alloc e,ty,pos,after,guard⟩ (.new b .ptr):=by
 obtain⟨i,z,c,f,d⟩:=xe hT h;intro w;refine⟨_,_,_,?_,yw (d φ) w e,fun j g a=>.ptr a⟩;simp[execOp,Instr.alloc,ry c f,newVar,newRow]
theorem aey{v:V}(h:aS φ v (ρ k))(c:bP v=true):fH P φ ρ ⟨dst,.box e k,ty,pos,after,guard⟩ (.new (cellsOf v) .ptr):=by
 intro w;refine⟨_,_,_,?_,yw (A5 h c) w e,fun d b a=>.ptr a⟩;simp[execOp,Instr.box,newVar,newRow]
theorem wB{f:Nat→Option (Nat×Nat)}:∀ {l:List (Nat×Operand)}{r:List (Nat×Nat)×List (Fr→V)},placesOf f l=some r→
 r.1.length=l.length∧(∀(j:Nat) (p:Nat×Nat),r.1[j]? =some p→∃i,(l.map (·.1))[j]? =some i∧f i=some p)∧hL (l.map (·.2))=some r.2:=by
 intro l;induction l with
 |nil=>intro r h;cases h;exact⟨rfl,fun j p h=>by simp at h,rfl⟩
 |cons x l m=>
  intro r h;obtain⟨q,e,h⟩:=aD.1 (show av (f x.1) (fun q=>av (gQ x.2) fun y=>av (placesOf f l) fun r=>some (q::r.1,y::r.2))=some r from h);obtain⟨y,k,h⟩:=aD.1 h;obtain⟨s,g,h⟩:=aD.1 h;cases h;obtain⟨b,c,d⟩:=m g;refine⟨by simp[b],fun j p a=>?_,?_⟩
  ·cases j with
   |zero=>simp at a;subst a;exact⟨x.1,aJ,e⟩
   |succ j=>simpa using c j p (by simpa using a)
  ·show av (gQ x.2) (fun f=>av (hL (l.map (·.2))) fun r=>some (f::r))=_;rw[k,d];rfl
theorem parts_eq(ρ:Operand→Value)(parts:Array (Nat×Operand)):(parts.map fun(x:Nat×Operand)=>(x.1,ρ x.2)).toList=(parts.toList.map (·.1)).zip ((parts.toList.map (·.2)).map ρ):=by
 obtain⟨l⟩:=parts;induction l with
 |nil=>simp
 |cons a l b=>simp at b⊢;exact b
theorem dD{x:Option b4}{c:b4}(h:hJ x=c)(a:c≠ .bad):x=some c:=by
 cases x with
 |none=>exact absurd h.symm a
 |some y=>exact congrArg some h
theorem ahV(hT:c4 P T)(w:World):∀ {l:List Field}{a:List (Nat×Nat)},IV T l=some a→(l.mapM fun f=>(do let s←sizeOf f.type;pure (f.offset,s):Sem (Nat×Nat))).run P w=.ok a w:=by
 intro l;induction l with
 |nil=>intro a h;cases h;rfl
 |cons f l d=>
  intro a h;obtain⟨s,c,h⟩:=aD.1 (show av (iw T f.type) (fun s=>av (IV T l) fun r=>some ((f.offset,s)::r))=some a from h);obtain⟨r,b,h⟩:=aD.1 h;cases h;have:=d b;rw[List.mapM_cons];simp only[c8,kV hT c,dS,fC,this]
variable{C:List V→Option bx}{G:bx}
theorem aeB{parts:Array (Nat×Operand)}(hT:c4 P T)(N:DF T e parts.toList=.pu t C)
 (F:jc φ o ρ (parts.toList.map (·.2))) (a:C (vals t o)=some G):fH P φ ρ ⟨dst,.build e parts,ty,pos,after,guard⟩ G:=by
 have h:=dD N aJ;obtain⟨L,U,h⟩:=aD.1 h;obtain⟨i,z,E,J,H⟩:=xe hT U;obtain⟨d,O,h⟩:=aD.1 h;have I:=run_underlying (hT.bQ O);intro w;cases d<;>simp only[reduceCtorEq]at h
 case struct M=>
  obtain⟨K,R,h⟩:=aD.1 h;obtain⟨q,A,h⟩:=aD.1 h;cases h;obtain⟨b,r,u⟩:=wB A;obtain⟨m,v,a⟩:=aD.1 a;cases a;have D:=ny u F;have Q:(M.mapM fun f=>(do let s←sizeOf f.type;pure (f.offset,s):Sem (Nat×Nat))).run P w=.ok ⟨K⟩ w:=by
   rw[Array.mapM_eq_mapM_toList];simp only[Sem.run_map,ahV hT w R,dS]
  obtain⟨g,c,B⟩:=IT (place:=((⟨K⟩:Array (Nat×Nat))[·]?)) q.1 (parts.toList.map (·.1)) _ _ L m z.cells (by simp[b]) (fun j p y=>by
   obtain⟨i,x,k⟩:=r j p y;exact⟨i,x,by rw[iW]at k;simpa using k⟩) D (by simp[b]) (H φ) v
  refine⟨.agg g,?_,?_⟩
  ·simp only[execOp,Instr.build];rw[←parts_eq]at c;simp only[c8,ry E J,dS,I,Q,c,fC]
  ·obtain⟨l⟩:=g;exact .agg B
 case array n V=>
  obtain⟨s,S,h⟩:=aD.1 h;obtain⟨q,A,h⟩:=aD.1 h;cases h;obtain⟨b,r,u⟩:=wB A;obtain⟨m,v,a⟩:=aD.1 a;cases a;have D:=ny u F;obtain⟨g,c,B⟩:=IT (place:=fun i=>some (i*s,s)) q.1 (parts.toList.map (·.1)) _ _ L m z.cells (by simp[b]) (fun j p y=>by
   obtain⟨i,x,k⟩:=r j p y;exact⟨i,x,k⟩) D (by simp[b]) (H φ) v
  refine⟨.agg g,?_,?_⟩
  ·simp only[execOp,Instr.build];rw[←parts_eq]at c;simp only[c8,ry E J,dS,I,kV hT S,c,fC]
  ·obtain⟨l⟩:=g;exact .agg B
end
theorem tq{v:V}(h:fU v=some a):∃k,v=.int k (a:Int):=by
 cases v with
 |int k m=>cases m with
  |ofNat b=>cases h;exact⟨k,rfl⟩
  |negSucc b=>cases h
 |_=>cases h
section
variable {P:Program}{φ:aO}{ρ:Operand→Value}{dst:Option Tmp}{ty:TypeId}{pos:String}{after:Array Edge}{guard:Option (Nat×Bool)}{T:cE}
variable{C:List V→Option bx}{G:bx}
theorem aeA{parts:Array (Nat×Operand)}(hT:c4 P T)(H:DG T e a parts.toList=.pu t C)
 (O:jc φ o ρ (parts.toList.map (·.2))) (k:C (vals t o)=some G):fH P φ ρ ⟨dst,.buildSlice e a parts,ty,pos,after,guard⟩ G:=by
 have h:=dD H aJ;obtain⟨d,J,h⟩:=aD.1 h;have y:=run_underlying (hT.bQ J);intro w;cases d<;>simp only[reduceCtorEq]at h
 case slice l=>
  obtain⟨s,v,h⟩:=aD.1 h;obtain⟨n,h⟩:=cS.1 h;obtain⟨g,V,h⟩:=aD.1 h;obtain⟨i,z,K,W,u⟩:=xe hT V;obtain⟨q,Q,h⟩:=aD.1 h;obtain⟨x,h⟩:=cS.1 h;cases h;obtain⟨m,D,E⟩:=wB Q;obtain⟨B,I,k⟩:=aD.1 k;cases k;rw[eN]at n;rw[beq_eq,gx]at x;have X:z.cells.size=s:=by have:=(u φ).length;simp at this;omega
  have U:=ny E O;have S:bC φ (rep g a) ((Array.range (a*s)).map ((if a*s=0 then #[]else z.cells)[·%(if a*s=0 then #[]else z.cells).size]!)).toList:=by
   by_cases c:a*s=0
   ·simp only[c,if_true];have:rep g a=[]:=by
     have:=yK g a;rw[x,c]at this;exact nI this
    rw[this];simpa using bC.nil
   ·simp only[c,if_false];have:=J9 (u φ) a;rw[X]at this⊢;exact this
  obtain⟨A,f,R⟩:=IT (place:=fun i=>some (i*s,s)) q.1 (parts.toList.map (·.1)) _ _ (rep g a) B _ (by simp[m]) (fun j p N=>by
   obtain⟨i,L,M⟩:=D j p N;exact⟨i,L,M⟩) U (by simp[m]) S I
  rw[←parts_eq]at f;refine⟨.slice (some ⟨w.heap.size,0,none⟩) a a,w.alloc (.cells A l),A.size,?_,yw R w l,fun Y b F=>.slice F (aR _) rfl⟩;simp only[execOp,Instr.buildSlice];have r:¬(a*s>2^24):=by
   have:a*s≤16777216:=n;omega
  by_cases c:a*s=0
  ·simp only[ay c]at f;simp only[c8,y,dS,kV hT v,au r,ay c,fC,f,newRow,run_newObj];simp
  ·simp only[au c]at f;simp only[c8,y,dS,kV hT v,au r,au c,ry K W,fC,f,newRow,run_newObj];simp
variable{N:TypeInfo}{s:V}
theorem anm{g:TypeId}{y:Operand}(hT:c4 P T)(u:T.bQ e=some (.slice g))(v:T.info g=some N)(K:zeroCells T g=some b)(C:b.length=N.size)
 {j:V} (m:aS φ s (ρ k)) (h:aS φ j (ρ y)) (d:mS N.bytes b [s,j]=some G):fH P φ ρ ⟨dst,.makeSlice e k y,ty,pos,after,guard⟩ G:=by
 intro w;have E:=run_underlying (hT.bQ u);obtain⟨a,z,i,L,o⟩:=xe hT K;have A:a=N:=by have:=hT.info g N v;rw[i]at this;exact Option.some.inj this
 subst A;obtain⟨n,f,d⟩:=aD.1 (show av (fU s) _=some G from d);obtain⟨c,r,d⟩:=aD.1 d;obtain⟨l,d⟩:=cS.1 d;obtain⟨q,d⟩:=cS.1 d;cases d;rw[cz,eN,eN]at l;rw[eN]at q;obtain⟨Q,rfl⟩:=tq f;obtain⟨R,rfl⟩:=tq r;generalize I:ρ k=S at m
 generalize J:ρ y=U at h
 cases m;cases h;have p:n≤c∧c*a.bytes≤1099511627776:=l;have F:IntKind.i64.wrap (n:Int)=n:=by simp[qC,oy,oz];omega
 have H:IntKind.i64.wrap (c:Int)=c:=by simp[qC,oy,oz];omega
 have M:z.cells.size=a.size:=by have:=(o φ).length;simp at this;omega
 have O:¬((a.bytes:Int)*(c:Int)>2^48):=by
  have:((c*a.bytes:Nat):Int)≤1099511627776:=aa;rw[e7,Int.mul_comm]at this;omega
 have t:((decide ((c:Int)<0)||decide ((a.bytes:Int)*(c:Int)>2^48))||decide ((n:Int)<0)||decide ((n:Int)>c))=false:=by
  simp;omega
 have B:bC φ (rep b c) ((Array.range (c*a.size)).map ((if c*a.size=0 then #[]else z.cells)[·%(if c*a.size=0 then #[]else z.cells).size]!)).toList:=by
  by_cases f:c*a.size=0
  ·simp only[f,if_true];have:rep b c=[]:=by
    have:=yK b c;rw[C,f]at this;exact nI this
   rw[this];simpa using bC.nil
  ·simp only[f,if_false];have:=J9 (o φ) c;rw[M]at this⊢;exact this
 refine⟨.slice (some ⟨w.heap.size,0,none⟩) n c,_,_,?_,yw B w g,fun W j h=>.slice h p.1 rfl⟩;have x:=o_ (P:=P) i;have D:(sizeOf g).run P=fun w=>.ok a.size w:=by funext w;simp[sizeOf,o_ i]
 simp only[execOp,Instr.makeSlice,I,J,asInt,asIntOf];simp only[c8,E,dS,fC,x,F,H,t,kj,if_false,run_askRoom,D,bN];by_cases f:c*a.size=0
 ·simp[f,newRow]
 ·simp[f,newRow,ry i L]
end
theorem k7(c b n:Nat):(⟨c,b,none⟩:Addr).add n=⟨c,b+n,none⟩:=by
 unfold Addr.add;split<;>simp_all
section
variable {P:Program}{φ:aO}{ρ:Operand→Value}{dst:Option Tmp}{ty:TypeId}{pos:String}{after:Array Edge}{guard:Option (Nat×Bool)}{T:cE}
variable{G:bx}
theorem ahK{f:Array Field}{d:Field}(hT:c4 P T)(n:T.bQ e=some (.struct f))(p:f.toList[a]? =some d)(q:iw T d.type=some g)(m:g≠0)
 {v:V} (h:aS φ v (ρ k)) (j:vU d.offset [v]=some G):fH P φ ρ ⟨dst,.fieldAddr e k a,ty,pos,after,guard⟩ G:=by
 intro w;generalize r:ρ k=C at h
 cases h<;>first|(cases j;done)|skip
 ·rename_i b o l t;cases j;refine⟨.pointer (some ⟨l.c,l.base+(o+d.offset),none⟩),?_,.ptr t⟩;have i:f[a]? =some d:=by simpa using p
  simp only[execOp,Instr.fieldAt,r];simp only[c8,run_underlying (hT.bQ n),dS,i,u6,fC,fieldPlace,kV hT q,au m,k7];simp[jq]
 ·rename_i z s o A B y x u h;cases j;refine⟨.pointer (some ⟨s,o+(z+d.offset),none⟩),?_,.dm x u h⟩;have i:f[a]? =some d:=by simpa using p
  simp only[execOp,Instr.fieldAt,r];simp only[c8,run_underlying (hT.bQ n),dS,i,u6,fC,fieldPlace,kV hT q,au m,k7];simp[jq]
variable{s:V}
theorem ajs{p:TypeId}{y:Operand}(hT:c4 P T)(r:T.bQ e=some (.slice p))(t:iw T p=some a){i:V}(q:aS φ s (ρ k))(g:aS φ i (ρ y))(d:dY none a [s,i]=some G):
 fH P φ ρ ⟨dst,.indexAddr e k y,ty,pos,after,guard⟩ G:=by
 intro w;obtain⟨m,E,n⟩:=aD.1 (show av (fU i) _=some G from d);clear d;obtain⟨K,rfl⟩:=tq E;generalize u:ρ k=M at q
 generalize v:ρ y=N at g
 cases g;cases q<;>first|(cases n;done)|skip
 ·rename_i b o f H A l C B J;obtain⟨j,d⟩:=cS.1 (show bq (b8 (Nat.succ m) f) _=some G from n);cases d;rw[eN]at j;refine⟨.pointer (some ⟨l.c,l.base+(o+m*a),none⟩),?_,.ptr C⟩;have h:0≤(m:Int)∧(m:Int)<(f:Int):=aa;simp only[execOp,Instr.indexAt,u,v,asIntOf];simp only[c8,fC,dS,run_underlying (hT.bQ r),ay h,kV hT t,bN,k7];simp[jq]
 ·rename_i f x o A I L z g D F B;obtain⟨j,d⟩:=cS.1 (show bq (b8 (Nat.succ m) f) _=some G from n);cases d;rw[eN]at j;refine⟨.pointer (some ⟨x,o+(m*a),none⟩),?_,.dm g D F⟩;have h:0≤(m:Int)∧(m:Int)<(f:Int):=aa;simp only[execOp,Instr.indexAt,u,v,asIntOf];simp only[c8,fC,dS,run_underlying (hT.bQ r),ay h,kV hT t,bN,k7]
theorem ajr{p:TypeId}{y:Operand}(hT:c4 P T)(r:T.bQ e=some (.array g p))(t:iw T p=some a){i:V}(q:aS φ s (ρ k))(f:aS φ i (ρ y))(d:dY (some g) a [s,i]=some G):
 fH P φ ρ ⟨dst,.indexAddr e k y,ty,pos,after,guard⟩ G:=by
 intro w;obtain⟨m,C,n⟩:=aD.1 (show av (fU i) _=some G from d);clear d;obtain⟨H,rfl⟩:=tq C;generalize u:ρ k=J at q
 generalize v:ρ y=K at f
 cases f;cases q<;>first|(cases n;done)|skip
 ·rename_i b o l A;obtain⟨j,d⟩:=cS.1 (show bq (b8 (Nat.succ m) g) _=some G from n);cases d;rw[eN]at j;refine⟨.pointer (some ⟨l.c,l.base+(o+m*a),none⟩),?_,.ptr A⟩;have h:0≤(m:Int)∧(m:Int)<(g:Int):=aa;simp only[execOp,Instr.indexAt,u,v,asIntOf];simp only[c8,fC,dS,run_underlying (hT.bQ r),u6,ay h,kV hT t,bN,k7];simp[jq]
 ·rename_i E x o F I z f B D;obtain⟨j,d⟩:=cS.1 (show bq (b8 (Nat.succ m) g) _=some G from n);cases d;rw[eN]at j;refine⟨.pointer (some ⟨x,o+(E+m*a),none⟩),?_,.dm f B D⟩;have h:0≤(m:Int)∧(m:Int)<(g:Int):=aa;simp only[execOp,Instr.indexAt,u,v,asIntOf];simp only[c8,fC,dS,run_underlying (hT.bQ r),u6,ay h,kV hT t,bN,k7];simp[jq]
theorem aju{y:Operand}(j:P.underlying e=some .string){i:V}(f:aS φ s (ρ k))(g:aS φ i (ρ y))(a:jS [s,i]=some G):
 fH P φ ρ ⟨dst,.index e k y,ty,pos,after,guard⟩ G:=by
 intro w;generalize q:ρ k=u at f
 generalize r:ρ y=v at g
 cases f<;>first|(cases a;done)|skip
 rename_i d;obtain⟨m,o,a⟩:=aD.1 (show av (fU i) _=some G from a);obtain⟨t,rfl⟩:=tq o;cases g;obtain⟨b,c,a⟩:=aD.1 a;cases a;rw[iW]at c;refine⟨_,?_,.int _ _⟩;have h:(⟨⟨d⟩⟩:ByteArray)[m]? =some b:=by
  have n:=(fo.1 c).1;have l:=(fo.1 c).2;have p:m<(⟨⟨d⟩⟩:ByteArray).size:=n;rw[getElem?_pos (⟨⟨d⟩⟩:ByteArray) m p];exact congrArg some l
 simp only[execOp,Instr.index,q,r,asIntOf];simp only[c8,fC,dS,run_underlying j,s7,if_true,bN,h];rfl
end
def kA(φ:aO):Option V→Option Value→Prop
 |none,none=>True
 |some v,some a=>aS φ v a
 |_,_=>False
section
variable {P:Program}{φ:aO}{ρ:Operand→Value}{dst:Option Tmp}{ty:TypeId}{pos:String}{after:Array Edge}{guard:Option (Nat×Bool)}{T:cE}
theorem rq{v:V}(h:aS φ v w)(d:fU v=some a)(e:a≤g)(c:BoundsCode)(b:World):(Instr.sliceBound w g c).run P b=.ok a b:=by
 obtain⟨k,rfl⟩:=tq d;cases h;have f:0≤(a:Int)∧(a:Int)≤(g:Int):=aa;simp[Instr.sliceBound,asIntOf,e]
def Mn(x:Option V)(d n:Nat):Prop:=match x with
 |none=>n=d
 |some v=>fU v=some n
variable{F:Option V}{z:Nat}{I:Nat}
theorem qR{d:Option V}(b:jg F d a g=some (z,I)):
 Mn d a I∧Mn F 0 z∧I≤g∧z≤I:=by
 obtain⟨h,e,b⟩:=aD.1 b;obtain⟨i,f,b⟩:=aD.1 b;obtain⟨c,b⟩:=cS.1 b;cases b;rw[cz,eN,eN]at c;refine⟨?_,?_,c.1,c.2⟩
 ·cases d with
  |none=>cases e;rfl
  |some v=>exact e
 ·cases F with
  |none=>cases f;rfl
  |some v=>exact f
theorem ru{l_:Bool}{k:Option V}{c f:Option Value}(rl:kA φ F c)(i:kA φ k f){h:Nat}(e:jg F k a g=some (I,h))(n:g≤z)(w:World):
 (qA l_ a z c f none).run P w=.ok (I,h,z) w:=by
 obtain⟨d,b,l,m⟩:=qR e;cases k with
 |none=>
  cases f with
  |some v=>exact i.elim
  |none=>
   have o:h=a:=d;clear d e;subst o;cases F with
   |none=>cases c with
    |some v=>exact rl.elim
    |none=>
     have j:I=0:=b;clear b
     try clear e
     subst j;simp[qA]
   |some v=>cases c with
    |none=>exact rl.elim
    |some p=>simp[qA,rq (P:=P) rl b m]
 |some u=>
  cases f with
  |none=>exact i.elim
  |some q=>
   cases F with
   |none=>cases c with
    |some v=>exact rl.elim
    |none=>
     have j:I=0:=b;clear b
     try clear e
     subst j;simp[qA,rq (P:=P) i d (cI l n)]
   |some v=>cases c with
    |none=>exact rl.elim
    |some p=>simp[qA,rq (P:=P) rl b m,rq (P:=P) i d (cI l n)]
variable{s:V}
theorem yM{l_:Bool}{b:Option V}{c e:Option Value}(rl:kA φ F c)(f:kA φ b e)(r:b.isSome=true)(n:aS φ s w)(m:fU s=some a){h:Nat}
 (k:jg F b g a=some (I,h)) (l:a≤z) (o:World):(qA l_ g z c e (some w)).run P o=.ok (I,h,a) o:=by
 obtain⟨i,d,j,q⟩:=qR k;cases b with
 |none=>simp at r
 |some u=>
  cases e with
  |none=>exact f.elim
  |some t=>
   cases F with
   |none=>cases c with
    |some v=>exact rl.elim
    |none=>
     have p:I=0:=d;clear d
     try clear k
     subst p;simp[qA,rq (P:=P) n m l,rq (P:=P) f i j]
   |some v=>cases c with
    |none=>exact rl.elim
    |some x=>simp[qA,rq (P:=P) n m l,rq (P:=P) rl d q,rq (P:=P) f i j]
variable{i:List UInt8}{G:bx}
theorem aqw(m:P.underlying e=some .string){d:Option V}{g f:Option Value}(rl:kA φ F g)(o:kA φ d f)(a:uN i F d=some G)(w:World):
 ∃v j,G=.val v∧(Instr.sliceAt e (.string ⟨⟨i⟩⟩) g f none).run P w=.ok j w∧aS φ v j:=by
 obtain⟨⟨l,h⟩,c,a⟩:=aD.1 a;obtain⟨u,b,a⟩:=aD.1 a;cases a;rw[gx]at c;have k:=ru (P:=P) (l_:=false) rl o c (aR _);rw[eR,jT]at b;split at b
 ·cases b;refine⟨_,.string ((⟨⟨i⟩⟩:ByteArray).extract l h),rfl,?_,?_⟩
  ·have n:(⟨⟨i⟩⟩:ByteArray).size=i.length:=rfl;simp only[Instr.sliceAt,Instr.slice,c8,run_underlying m,dS,n];simp[k]
  ·have:(⟨⟨i⟩⟩:ByteArray).extract l h=⟨⟨(i.drop l).take (h-l)⟩⟩:=by
    apply ByteArray.ext;simp[ByteArray.data_extract]
   rw[this];exact .str _
 ·cases b
theorem pn{b:TypeId}(hT:c4 P T)(j:T.bQ e=some (.slice b))(k:iw T b=some g){a:Option Addr}{d c f:Option Value}{l h m:Nat}
 (i:(qA true z I d c f).run P q=.ok (l,h,m) q):
 (Instr.sliceAt e (.slice a z I) d c f).run P q=.ok (.slice (if m=l then a else a.map (·.add (l*g))) (h-l) (m-l)) q:=by
 simp only[Instr.sliceAt,Instr.slice,c8,run_underlying (hT.bQ j),dS,i,kV hT k,fC]
theorem CA{n:Nat}{j:Option V}(d:φ a=some Q)(b:pg a g z I n F j=some G):
 ∃v i h,G=.val v∧jg F j z I=some (i,h)∧aS φ v (.slice (if I=i then some ⟨Q.c,Q.base+g,none⟩else(some (⟨Q.c,Q.base+g,none⟩:Addr)).map (·.add (i*n))) (h-i) (I-i)):=by
 obtain⟨⟨i,h⟩,f,b⟩:=aD.1 b;cases b;obtain⟨_,_,k,l⟩:=qR f;refine⟨_,i,h,rfl,f,?_⟩;by_cases e:I=i
 ·subst e;have:bK I I=true:=(beq_eq _ _).2 rfl;simp only[this,if_true];exact .slice d (by show h-I≤I-I;omega) rfl
 ·have:bK I i=false:=mB.2 (fun h=>e ((beq_eq _ _).1 h));simp only[this,au e,Option.map_some,k7];have:Q.base+g+i*n=Q.base+(g+i*n):=aa;rw[this];exact .slice d (by show h-i≤I-i;omega) rfl
theorem aqs{k n:Nat}{f:Option V}(j:φ a=some Q)(_:z≤I)(o:k≤I)(b:yR a g z k F f=some G):
 ∃v i h,G=.val v∧jg F f z k=some (i,h)∧aS φ v (.slice (if I=i then some ⟨Q.c,Q.base+g,none⟩else(some (⟨Q.c,Q.base+g,none⟩:Addr)).map (·.add (i*n))) (h-i) (I-i)):=by
 obtain⟨⟨i,h⟩,e,b⟩:=aD.1 b;obtain⟨d,b⟩:=cS.1 b;cases b;obtain⟨_,_,l,m⟩:=qR e;have d:i=0:=(beq_eq _ _).1 d;subst d;refine⟨_,0,h,rfl,e,?_⟩;have key:(if I=0 then some (⟨Q.c,Q.base+g,none⟩:Addr)else(some (⟨Q.c,Q.base+g,none⟩:Addr)).map (·.add (0*n)))=some ⟨Q.c,Q.base+g,none⟩:=by
  split
  ·rfl
  ·simp only[Option.map_some,k7,jE,cO]
 rw[key];exact .slice j aa (by show k≤I-0;omega)
theorem acG{n:Nat}{d:Cap}(m:d=.mg∨d=.grown n){j:Option V}(l:φ a=some Q)(p:z≤I)(k:Yp d I g Q.ji)(b:uO a g z d n F j=some G):
 ∃v i h,G=.val v∧jg F j z z=some (i,h)∧aS φ v (.slice (if I=i then some ⟨Q.c,Q.base+g,none⟩else(some (⟨Q.c,Q.base+g,none⟩:Addr)).map (·.add (i*n))) (h-i) (I-i)):=by
 obtain⟨⟨i,h⟩,f,b⟩:=aD.1 b;obtain⟨_,_,r,s⟩:=qR f;have o:(i=0∨i<z)∨¬(i=0∨i<z):=Classical.em _;rcases o with hc|hc
 ·have e:or (fy i) (b8 (Nat.succ i) z)=true:=by
   simp only[fy,pE,beq_eq,eN];exact hc
  simp only[e]at b;cases b;refine⟨_,i,h,rfl,f,?_⟩;have key:(if I=i then some (⟨Q.c,Q.base+g,none⟩:Addr)else(some (⟨Q.c,Q.base+g,none⟩:Addr)).map (·.add (i*n)))=some ⟨Q.c,Q.base+(g+i*n),none⟩:=by
   split
   ·have:i=0:=aa;subst this;simp
   ·simp only[Option.map_some,k7];have:Q.base+g+i*n=Q.base+(g+i*n):=aa;rw[this]
  rw[key];refine .slice l (by show h-i≤I-i;omega) ?_;rcases m with rfl|rfl
  ·trivial
  ·have q:g+I*n≤Q.ji:=k;show g+i*n+(I-i)*n≤Q.ji;have:(I-i)*n+i*n=I*n:=by rw[←cZ];congr 1;omega
   omega
 ·have e:or (fy i) (b8 (Nat.succ i) z)=false:=by
   apply mB.2;simp only[fy,ne_eq,pE,beq_eq,eN];exact hc
  simp only[e]at b;cases b;refine⟨_,i,h,rfl,f,?_⟩;have:h-i=0:=aa;rw[this];split
  ·exact .emp _ _
  ·simp only[Option.map_some];exact .emp _ _
end
section
variable {P:Program}{φ:aO}{ρ:Operand→Value}{dst:Option Tmp}{ty:TypeId}{pos:String}{after:Array Edge}{guard:Option (Nat×Bool)}{T:cE}
variable{G:bx}
theorem Kq{q p mx:Option Operand}(h:hL (k::ez (nw q) (ez (nw p) (nw mx)))=some t)
 (w:jc φ o ρ (k::(q.toList++p.toList++mx.toList))) {g:V→Option V→Option V→Option V→Option bx} (i:slice3 g q.isSome p.isSome mx.isSome (vals t o)=some G):
 ∃a l h m,aS φ a (ρ k)∧kA φ l (q.map ρ)∧kA φ h (p.map ρ)∧kA φ m (mx.map ρ)∧(m.isSome=true→h.isSome=true)∧g a l h m=some G:=by
 have j:bC φ (vals t o) ((k::ez (nw q) (ez (nw p) (nw mx))).map ρ):=ny h (fun y x f v=>w y (by
  cases q<;>cases p<;>cases mx<;>exact x) f v)
 generalize vals t o=l at j i
 cases q<;>cases p<;>cases mx
 ·cases j with|cons c b=>cases b;exact⟨_,none,none,none,c,trivial,trivial,trivial,aJ,i⟩
 ·cases j with|cons c b=>cases b with|cons e d=>cases d;cases i
 ·cases j with|cons c b=>cases b with|cons e d=>cases d;exact⟨_,none,some _,none,c,trivial,e,trivial,aJ,i⟩
 ·cases j with|cons c b=>cases b with|cons e d=>cases d with|cons r n=>cases n;exact⟨_,none,some _,some _,c,trivial,e,r,aJ,i⟩
 ·cases j with|cons c b=>cases b with|cons e d=>cases d;exact⟨_,some _,none,none,c,e,trivial,trivial,aJ,i⟩
 ·cases j with|cons c b=>cases b with|cons e d=>cases d with|cons r n=>cases n;cases i
 ·cases j with|cons c b=>cases b with|cons e d=>cases d with|cons r n=>cases n;exact⟨_,some _,some _,none,c,e,r,trivial,aJ,i⟩
 ·cases j with|cons c b=>cases b with|cons e d=>cases d with|cons r n=>cases n with|cons s u=>cases u;exact⟨_,some _,some _,some _,c,e,r,s,aJ,i⟩
variable{s:V}{F:Option V}
theorem aqv{f b mx:Option Operand}(o:P.underlying e=some .string){h m:Option V}(a:aS φ s (ρ k))(rl:kA φ F (f.map ρ))(r:kA φ h (b.map ρ))(g:kA φ m (mx.map ρ))
 {n:Nat} (p:∃i,s=.str i) (d:yQ n s F h m=some G):fH P φ ρ ⟨dst,.slice e k f b mx,ty,pos,after,guard⟩ G:=by
 intro w;obtain⟨i,rfl⟩:=p;generalize q:ρ k=u at a
 cases a;cases m with
 |some m=>cases d
 |none=>
  cases c:mx.map ρ with
  |some m=>rw[c]at g;exact g.elim
  |none=>
   obtain⟨v,t,rfl,j,l⟩:=aqw (P:=P) o rl r d w;exact⟨t,by simp only[execOp,q,c];simp[j],l⟩
variable{z:Nat}
theorem apN{f:Option Addr}(o:aS φ (.row g b) (.slice f g z)){h:Option V}(m:wP a g b F h none=some G):
 ∃v i c,G=.val v∧jg F h g g=some (i,c)∧g≤z∧aS φ v (.slice (if z=i then f else f.map (·.add (i*a))) (c-i) (z-i)):=by
 obtain⟨⟨i,c⟩,p,m⟩:=aD.1 (show av (jg F h g g) _=some G from m);obtain⟨_,_,y,A⟩:=qR p;have q:g≤z:=by
  cases o with
  |e4=>omega
  |row _ _ _ h=>exact h
 have w:f=none→z=0:=by
  intro e;subst e;cases o with
  |e4 _ _ h=>exact h rfl
 cases k:bK i c with
 |true=>
  have d:Bool.casesOn (motive:=fun _=>Option bx) (bK i c) (av (cF (eA b (dW i a)) (dW (iz c i) a)) fun t=>some (.val (.row (iz c i) t))) (some (bx.val (.row 0 [])))=some G:=m;rw[k]at d;cases d;rw[beq_eq]at k;subst k;refine⟨_,i,i,rfl,p,q,?_⟩;rw[lV];refine .e4 _ _ ?_;intro e;cases f with
  |none=>rw[w rfl];exact Nat.zero_sub i
  |some f=>
   split at e
   ·cases e
   ·cases e
 |false=>
  have d:Bool.casesOn (motive:=fun _=>Option bx) (bK i c) (av (cF (eA b (dW i a)) (dW (iz c i) a)) fun t=>some (.val (.row (iz c i) t))) (some (bx.val (.row 0 [])))=some G:=m;rw[k]at d;obtain⟨t,n,d⟩:=aD.1 (show av (cF (eA b (dW i a)) (dW (iz c i) a)) (fun t=>some (bx.val (.row (iz c i) t)))=some G from d);cases d;have B:i≠c:=fun e=>by rw[(beq_eq _ _).2 e]at k;cases k
  refine⟨_,i,c,rfl,p,q,?_⟩;rw[au aa];cases o with
  |e4=>omega
  |row s r x _=>
   rw[eR,jT]at n;split at n
   ·cases n;show aS φ (.row (c-i) _) (.slice (some (Addr.add ⟨_,_,none⟩ (i*a))) (c-i) (z-i));rw[k7];refine .row s ((r.drop _).take _) ?_ aa;intro j v u;have l:=u;rw[List.getElem?_take]at l;split at l
    ·rw[pJ]at l;have h:=x _ _ l;rw[jq];exact h
    ·cases l
   ·cases n
theorem aqu{ad:TypeId}{Y M mx:Option Operand}(hT:c4 P T)(r:T.bQ e=some (.slice ad))(x:iw T ad=some a){h m:Option V}(Q:aS φ s (ρ k))(rl:kA φ F (Y.map ρ))(y:kA φ h (M.map ρ))(p:kA φ m (mx.map ρ))
 (S:m.isSome=true→h.isSome=true) (hs:∀a2,s≠ .str a2) (d:yQ a s F h m=some G):fH P φ ρ ⟨dst,.slice e k Y M mx,ty,pos,after,guard⟩ G:=by
 intro w;generalize g:ρ k=x' at Q
 generalize u:mx.map ρ=C at p
 cases Q<;>first|exact absurd rfl (hs _)|(cases d;done)|skip
 ·rename_i b o U ac j z L B K;cases m with
  |none=>
   cases C with
   |some q=>exact p.elim
   |none=>
    cases ac with
    |known n=>
     have X:j=n:=K;subst X;obtain⟨v,i,t,rfl,f,l⟩:=CA L (show pg b o U j a F h=some G from d);have:=pn (P:=P) hT r x (a:=some ⟨z.c,z.base+o,none⟩) (ru (l_:=true) rl y f (aR _) w);exact⟨_,by simp only[execOp,g,u];rw[c8,this];rfl,l⟩
    |grown sz=>
     obtain⟨he,d⟩:=cS.1 (show bq (bK sz a) (uO b o U (.grown sz) a F h)=some G from d);rw[beq_eq]at he;subst he;obtain⟨v,i,t,rfl,f,l⟩:=acG (.inr rfl) L B K d;have:=pn (P:=P) hT r x (a:=some ⟨z.c,z.base+o,none⟩) (ru (l_:=true) rl y f B w);exact⟨_,by simp only[execOp,g,u];rw[c8,this];rfl,l⟩
    |mg=>
     obtain⟨v,i,t,rfl,f,l⟩:=acG (.inl rfl) L B K (show uO b o U .mg a F h=some G from d);have:=pn (P:=P) hT r x (a:=some ⟨z.c,z.base+o,none⟩) (ru (l_:=true) rl y f B w);exact⟨_,by simp only[execOp,g,u];rw[c8,this];rfl,l⟩
    |least n=>
     have R:n≤j:=K;obtain⟨v,i,t,rfl,f,l⟩:=aqs L B R (show yR b o U n F h=some G from d);have:=pn (P:=P) hT r x (a:=some ⟨z.c,z.base+o,none⟩) (ru (l_:=true) rl y f R w);exact⟨_,by simp only[execOp,g,u];rw[c8,this];rfl,l⟩
  |some m=>
   cases C with
   |none=>exact p.elim
   |some Z=>
    obtain⟨H,E,d⟩:=aD.1 (show av (fU m) _=some G from d);obtain⟨D,d⟩:=cS.1 d;rw[eN]at D;have a0:H≤j:=by
     cases ac with
     |known n=>have X:j=n:=K;subst X;exact D
     |grown sz=>exact cI D B
     |mg=>exact cI D B
     |least n=>exact cI D B
    obtain⟨v,i,t,rfl,f,l⟩:=CA L d;have:=pn (P:=P) hT r x (a:=some ⟨z.c,z.base+o,none⟩) (yM (l_:=true) rl y (S rfl) p E f a0 w);exact⟨_,by simp only[execOp,g,u];rw[c8,this];rfl,l⟩
 ·obtain⟨⟨i,t⟩,f,d⟩:=aD.1 (show av (jg F h 0 0) _=some G from d);obtain⟨_,_,h3,h4⟩:=qR f;have I:t=0:=aa;have J:i=0:=aa;subst I;subst J;cases m with
  |none=>
   cases C with
   |some q=>exact p.elim
   |none=>
    cases d;have:=pn (P:=P) hT r x (a:=none) (ru (l_:=true) rl y f (aR _) w);exact⟨_,by simp only[execOp,g,u];rw[c8,this];rfl,by simpa using aS.ak⟩
  |some m=>
   cases C with
   |none=>exact p.elim
   |some Z=>
    obtain⟨H,E,d⟩:=aD.1 d;obtain⟨N,d⟩:=cS.1 d;cases d;have O:H=0:=(beq_eq _ _).1 N;subst O;have:=pn (P:=P) hT r x (a:=none) (yM (l_:=true) rl y (S rfl) p E f (aR _) w);exact⟨_,by simp only[execOp,g,u];rw[c8,this];rfl,by simpa using aS.ak⟩
 ·rename_i A j;obtain⟨⟨i,t⟩,f,d⟩:=aD.1 (show av (jg F h 0 0) _=some G from d);obtain⟨_,_,h3,h4⟩:=qR f;have I:t=0:=aa;have J:i=0:=aa;subst I;subst J;cases m with
  |none=>
   cases C with
   |some q=>exact p.elim
   |none=>
    cases d;have:=pn (P:=P) hT r x (a:=some A) (ru (l_:=true) rl y f (ck j) w);refine⟨_,by simp only[execOp,g,u];rw[c8,this];rfl,?_⟩;split
    ·exact .emp _ _
    ·exact .emp _ _
  |some m=>
   cases C with
   |none=>exact p.elim
   |some Z=>
    obtain⟨H,E,d⟩:=aD.1 d;obtain⟨N,d⟩:=cS.1 d;cases d;have O:H=0:=(beq_eq _ _).1 N;subst O;have:=pn (P:=P) hT r x (a:=some A) (yM (l_:=true) rl y (S rfl) p E f (ck j) w);refine⟨_,by simp only[execOp,g,u];rw[c8,this];rfl,?_⟩;split
    ·exact .emp _ _
    ·exact .emp _ _
 all_goals
  have ap:∀ {n:Nat}{W:List V}{A:Option Addr}{j:Nat},aS φ (.row n W) (.slice A n j)→wP a n W F h m=some G→ρ k=.slice A n j→(∃v,G=.val v∧∃v',(execOp ρ ⟨dst,.slice e k Y M mx,ty,pos,after,guard⟩).run P w=.ok (.value v') w∧aS φ v v'):=by
   intro n W A j Q d g;cases m with
   |none=>
    cases C with
    |some q=>exact p.elim
    |none=>
     obtain⟨v,i,t,rfl,f,R,l⟩:=apN Q d;have:=pn (P:=P) hT r x (a:=A) (ru (l_:=true) rl y f R w);exact⟨v,rfl,_,by simp only[execOp,g,u];rw[c8,this];rfl,l⟩
   |some m=>
    cases C with
    |none=>exact p.elim
    |some Z=>
     obtain⟨H,E,d⟩:=aD.1 (show av (fU m) _=some G from d);obtain⟨N,d⟩:=cS.1 d;obtain⟨⟨i,t⟩,f,d⟩:=aD.1 d;cases d;have O:H=0:=(beq_eq _ _).1 N;subst O;obtain⟨_,_,h3,h4⟩:=qR f;have I:t=0:=aa;have J:i=0:=aa;subst I;subst J;have:=pn (P:=P) hT r x (a:=A) (yM (l_:=true) rl y (S rfl) p E f (ck j) w);exact⟨_,rfl,_,by simp only[execOp,g,u];rw[c8,this];rfl,.gu _⟩
 ·obtain⟨v,rfl,h⟩:=ap (.e4 _ _ (by assumption)) d g;exact h
 ·rename_i M hc l D;obtain⟨v,rfl,h⟩:=ap (.row M hc l D) d g;exact h
theorem aqr{l:TypeId}{t p mx:Option Operand}(hT:c4 P T)(D:T.bQ e=some (.array g l))(J:iw T l=some a){h m:Option V}(A:aS φ s (ρ k))(rl:kA φ F (t.map ρ))(C:kA φ h (p.map ρ))(u:kA φ m (mx.map ρ))
 (H:m.isSome=true→h.isSome=true) (d:lK g a s F h m=some G):fH P φ ρ ⟨dst,.slice e k t p mx,ty,pos,after,guard⟩ G:=by
 intro w;generalize K:ρ k=M at A
 generalize I:mx.map ρ=z at u
 cases A<;>first|(cases d;done)|skip
 rename_i b o r n
 have key:∀ {i j f:Nat},(qA false g g (t.map ρ) (p.map ρ) z).run P w=.ok (i,j,f) w→
  (execOp ρ ⟨dst,.slice e k t p mx,ty,pos,after,guard⟩).run P w=.ok (.value (.slice (if f=i then some ⟨r.c,r.base+o,none⟩else(some (⟨r.c,r.base+o,none⟩:Addr)).map (·.add (i*a))) (j-i) (f-i))) w:=by
  intro i j f n;simp only[execOp,K,I,Instr.sliceAt,u6];simp only[c8,run_underlying (hT.bQ D),dS,fC,n,kV hT J];by_cases l:f=i<;>simp[l]
 cases m with
 |none=>
  cases z with
  |some q=>exact u.elim
  |none=>
   obtain⟨v,i,j,rfl,x,y⟩:=CA n (show pg b o g g a F h=some G from d);exact⟨_,key (ru rl C x (aR _) w),y⟩
 |some m=>
  cases z with
  |none=>exact u.elim
  |some L=>
   obtain⟨f,E,d⟩:=aD.1 (show av (fU m) _=some G from d);obtain⟨B,d⟩:=cS.1 d;rw[eN]at B;obtain⟨v,i,j,rfl,x,y⟩:=CA n d;exact⟨_,key (yM rl C (H rfl) u E x B w),y⟩
end
section
variable {P:Program}{φ:aO}{ρ:Operand→Value}{dst:Option Tmp}{ty:TypeId}{pos:String}{after:Array Edge}{guard:Option (Nat×Bool)}{T:cE}
variable{u:Array TypeId}{G:bx}
theorem amS(c:u[0]? =some e)(d:P.underlying e=some .string){v:V}(b:aS φ v (ρ k))(a:yf v=some G):
 fH P φ ρ ⟨dst,.call ⟨.builtin .len,#[k],u⟩,ty,pos,after,guard⟩ G:=by
 intro w;generalize f:ρ k=g at b
 cases b<;>first|(cases a;done)|skip
 cases a;refine⟨_,?_,.int _ _⟩;simp only[execOp,resolve,invoke,builtin,Builtin.len_];simp[f,c,run_underlying d,goInt,gx];rfl
theorem amQ{c:TypeId}(d:u[0]? =some e)(f:P.underlying e=some (.slice c)){v:V}(b:aS φ v (ρ k))(a:eC v=some G):
 fH P φ ρ ⟨dst,.call ⟨.builtin .len,#[k],u⟩,ty,pos,after,guard⟩ G:=by
 intro w;generalize g:ρ k=h at b
 cases b<;>first|(cases a;done)|skip
 all_goals
  cases a;refine⟨_,?_,.int _ _⟩;simp only[execOp,resolve,invoke,builtin,Builtin.len_];simp[g,d,run_underlying f,goInt]
theorem amP{b:TypeId}(c:u[0]? =some e)(d:P.underlying e=some (.array a b)):
 fH P φ ρ ⟨dst,.call ⟨.builtin .len,#[k],u⟩,ty,pos,after,guard⟩ (.val (.int .i64 (.ofNat a))):=by
 intro w;refine⟨.int .i64 a,?_,.int _ _⟩;simp only[execOp,resolve,invoke,builtin,Builtin.len_];simp[c,run_underlying d,goInt]
theorem afD{j:TypeId}(d:u[0]? =some e)(f:P.underlying e=some (.slice j)){v:V}(g:aS φ v (ρ k))(a:xY v=some G):
 fH P φ ρ ⟨dst,.call ⟨.builtin .cap,#[k],u⟩,ty,pos,after,guard⟩ G:=by
 intro w;generalize h:ρ k=s at g
 cases g<;>first|(cases a;done)|skip
 ·rename_i b o r i c l q p m;cases i<;>first|(cases a;done)|skip
  cases a;have n:c=_:=m;subst n;refine⟨.int .i64 c,?_,.int _ _⟩;simp only[execOp,resolve,invoke,builtin,Builtin.cap_];simp[h,d,run_underlying f,goInt]
 all_goals
  cases a;refine⟨.int .i64 0,?_,.int _ _⟩;simp only[execOp,resolve,invoke,builtin,Builtin.cap_];simp[h,d,run_underlying f,goInt]
theorem ZE{f:V→V→Option V}{o:Value→Value→Sem Value}(u:∀ {a b c:V}{d n:Value},aS φ a d→aS φ b n→f a b=some c→∀w,∃j,(o d n).run P w=.ok j w∧aS φ c j)(w:World):
 ∀ {l:List V}{g:List Value},bC φ l g→∀ {a v:V}{d:Value},aS φ a d→List.rec (motive:=fun _=>V→Option V) (fun a=>some a) (fun y _ m a=>av (f a y) m) l a=some v→
  ∃i,(g.foldlM o d).run P w=.ok i w∧aS φ v i:=by
 intro l;induction l with
 |nil=>intro g h a v d k e;cases h;cases e;exact⟨d,rfl,k⟩
 |cons y l m=>
  intro g h a v d k e;cases h with
  |cons p q=>
   obtain⟨c,r,e⟩:=aD.1 e;obtain⟨j,s,t⟩:=u k p r w;obtain⟨i,x,z⟩:=m q t e;refine⟨i,?_,z⟩;rw[List.foldlM_cons,c8,s];exact x
variable{s:V}
theorem anp{b c:V}{d:Value}(i:aS φ s w)(j:aS φ b d)(h:max2 s b=some c)(g:World):∃f,(Builtin.max2 w d).run P g=.ok f g∧aS φ c f:=by
 cases i<;>cases j<;>first|(cases h;done)|skip
 rename_i k x l y;cases h;refine⟨.int k (if y>x then y else x),by simp[Builtin.max2],?_⟩;by_cases a:x<y
 ·have e:j9 x y=true:=by rw[n3];simpa using a
  rw[e,ay a];exact .int _ _
 ·have e:j9 x y=false:=by rw[n3];simpa using a
  rw[e,au a];exact .int _ _
theorem ant{b c:V}{d:Value}(i:aS φ s w)(j:aS φ b d)(h:min2 s b=some c)(g:World):∃f,(Builtin.min2 w d).run P g=.ok f g∧aS φ c f:=by
 cases i<;>cases j<;>first|(cases h;done)|skip
 rename_i k x l y;cases h;refine⟨.int k (if y<x then y else x),by simp[Builtin.min2],?_⟩;by_cases a:y<x
 ·have e:j9 y x=true:=by rw[n3];simpa using a
  rw[e,ay a];exact .int _ _
 ·have e:j9 y x=false:=by rw[n3];simpa using a
  rw[e,au a];exact .int _ _
theorem anq{d:Array Operand}(e:bC φ b (d.toList.map ρ))(c:oR max2 b=some G):fH P φ ρ ⟨dst,.call ⟨.builtin .max,d,u⟩,ty,pos,after,guard⟩ G:=by
 intro w;cases b with
 |nil=>cases c
 |cons a b=>
  generalize k:d.toList.map ρ=m at e
  cases e with
  |cons f g=>
   obtain⟨v,l,c⟩:=aD.1 (show av _ (fun v=>some (bx.val v))=some G from c);cases c;obtain⟨p,n,o⟩:=ZE (fun h i j w=>anp (P:=P) h i j w) w g f l;refine⟨p,?_,o⟩;simp only[execOp,resolve,invoke,builtin,Builtin.max_];simp[k,n]
theorem anu{d:Array Operand}(e:bC φ b (d.toList.map ρ))(c:oR min2 b=some G):fH P φ ρ ⟨dst,.call ⟨.builtin .min,d,u⟩,ty,pos,after,guard⟩ G:=by
 intro w;cases b with
 |nil=>cases c
 |cons a b=>
  generalize k:d.toList.map ρ=m at e
  cases e with
  |cons f g=>
   obtain⟨v,l,c⟩:=aD.1 (show av _ (fun v=>some (bx.val v))=some G from c);cases c;obtain⟨p,n,o⟩:=ZE (fun h i j w=>ant (P:=P) h i j w) w g f l;refine⟨p,?_,o⟩;simp only[execOp,resolve,invoke,builtin,Builtin.min_];simp[k,n]
theorem Mq(s:List UInt8):bC φ (lmap (fun b=>V.int .u8 (.ofNat b.toNat)) s) (s.map fun b=>Value.int .u8 b.toNat):=by
 induction s with
 |nil=>exact .nil
 |cons b s a=>exact .cons (.int _ _) a
theorem aq9{d a:TypeId}(H:P.underlying e=some .string)(E:P.underlying d=some (.slice a))(F:P.underlying a=some (.int .u8)){v:V}(g:aS φ v (ρ k))(o:y3 [v]=some G):
 fH P φ ρ ⟨dst,.convert e d k,ty,pos,after,guard⟩ G:=by
 intro w;generalize I:ρ k=L at g
 cases g<;>first|(cases o;done)|skip
 rename_i u;cases o;have m:u.length≤grownCap w u.length 0 a:=grownCap_ge w _ 0 a;have q:=run_bytes_of_string (P:=P) w e d a ⟨⟨u⟩⟩ H E F;have r:(⟨⟨u⟩⟩:ByteArray).size=u.length:=rfl;rw[r]at q;have n:(bytesRow ⟨⟨u⟩⟩ (grownCap w u.length 0 a)).size=grownCap w u.length 0 a:=by
  simp[bytesRow,r];omega
 have p:=Mq (φ:=φ) u;have A:∀i,i<u.length→(bytesRow ⟨⟨u⟩⟩ (grownCap w u.length 0 a))[i]? =(u.map fun b=>Value.int .u8 b.toNat)[i]? :=by
  intro i f;rw[bytesRow_at _ _ _ (by simpa using f)];simp[f]
 generalize bytesRow ⟨⟨u⟩⟩ (grownCap w u.length 0 a)=B at*
 refine⟨.slice (some ⟨w.heap.size,0,none⟩) u.length (grownCap w u.length 0 a),w.drew.alloc (.cells B a (B.size,B.size+1)),grownCap w u.length 0 a,by simp only[execOp,I];rw[c8,q];rfl,⟨aJ,fun c D=>?_,⟨rfl,rfl,rfl,fun h=>(gW.alloc w.drew _).free h,fun c s t y h=>(gW.alloc w.drew _).shape c s t y h⟩,_,rfl,?_,fun i v g=>?_,fun i f=>⟨?_,?_⟩⟩,fun K b C=>?_⟩
 ·show(w.heap.push _)[c]? =_;simp[uY,Nat.ne_of_lt D]
 ·have j:=p.length;rw[lQ]at j;exact cI (Nat.le_of_eq j) m
 ·obtain⟨J,l,z⟩:=p.get i v g;refine⟨J,?_,z⟩;have f:i<u.length:=by
   have:=(fo.1 l).1;simpa using this
  exact(World.cell?_alloc_mark w.drew B a (B.size,B.size+1) i).trans ((A i f).trans l)
 ·exact⟨B[i]'aa,(World.cell?_alloc_mark w.drew B a (B.size,B.size+1) i).trans (by simp[n,f])⟩
 ·refine(World.frozen?_alloc_mark w.drew B a B.size (B.size+1) i).trans ?_;rw[n];simp;omega
 ·have x:cP u=u.length:=gx u;show aS K (.slice b 0 (cP u) .mg) _;rw[x];exact .slice C m trivial
end
section
variable {P:Program}{φ:aO}{ρ:Operand→Value}{dst:Option Tmp}{ty:TypeId}{pos:String}{after:Array Edge}{guard:Option (Nat×Bool)}{T:cE}
theorem anY:Extern.allNextRows.lookup "math/bits.Add64"=none:=by kernel_rfl
theorem an0:Extern.allNextRows.lookup "math/bits.Sub64"=none:=by kernel_rfl
theorem aa7:Extern.allNextRows.lookup ""=none:=by kernel_rfl
theorem ail:Extern.allGenericRows.lookup "math/bits.Add64"=none:=by kernel_rfl
theorem aim:Extern.allGenericRows.lookup "math/bits.Sub64"=none:=by kernel_rfl
theorem ars:Extern.allTypedRows.lookup "math/bits.Add64"=none:=by kernel_rfl
theorem art:Extern.allTypedRows.lookup "math/bits.Sub64"=none:=by kernel_rfl
theorem apO:Extern.allRows.lookup "math/bits.Add64"=Extern.MathBitsCarry.rows.lookup "math/bits.Add64":=by kernel_rfl
theorem apS:Extern.allRows.lookup "math/bits.Sub64"=Extern.MathBitsCarry.rows.lookup "math/bits.Sub64":=by kernel_rfl
variable{A:FuncId}{u:Array TypeId}
theorem Yk{a:Func}(k:ρ (.func A)=.func (.func A) #[] #[]) (h:P.funcs[A]? =some a) (f:a.body=none) (i:(a.name== "runtime.NumGoroutine")=false) (c:Extern.findNext a=none) {e:Array Value→Sem Value} (d:Extern.find a=some e) {b:Array Operand}{v:Value}
 (g:(e (b.map ρ)).run P q=.ok v q):(execOp ρ ⟨dst,.call ⟨.value (.func A),b,u⟩,ty,pos,after,guard⟩).run P q=.ok (.value v) q:=by
 simp only[execOp,resolve,k,Deferred.ofValue,invoke,callFunc];have j:¬a.name= "runtime.NumGoroutine":=by simpa using i
 simp[h,j,f,c,d,g]
def Dq(a:Array Value):Sem Value:=do
 let(x,y,c)←Extern.MathBitsCarry.three "Add64" a
 pure (Extern.MathBitsCarry.pair ((x+y+c)%Extern.MathBitsCarry.m64) ((x+y+c)/Extern.MathBitsCarry.m64))
def Kw(a:Array Value):Sem Value:=do
 let(x,y,b)←Extern.MathBitsCarry.three "Sub64" a
 pure (Extern.MathBitsCarry.pair ((x+Extern.MathBitsCarry.m64-y-b)%Extern.MathBitsCarry.m64) (if x<y+b then 1 else 0))
theorem am7:Extern.MathBitsCarry.rows.lookup "math/bits.Add64"=some Dq:=rfl
theorem am8:Extern.MathBitsCarry.rows.lookup "math/bits.Sub64"=some Kw:=rfl
theorem acX(d:String)(a b c:Nat)(f:c≤1)(w:World):(Extern.MathBitsCarry.three d ⟨[.int .u64 (a:Int),.int .u64 (b:Int),.int .u64 (c:Int)]⟩).run P w=.ok (a,b,c) w:=by
 have e:Extern.MathBitsCarry.three d ⟨[.int .u64 (a:Int),.int .u64 (b:Int),.int .u64 (c:Int)]⟩=(do
  let c:=(←asInt (.int .u64 (c:Int))).toNat
  if c>1 then unsupported (.noEntry ("extern/math/bits."++d++ ": a carry that is neither 0 nor 1"))
  pure ((←asInt (.int .u64 (a:Int))).toNat,(←asInt (.int .u64 (b:Int))).toNat,c):Sem (Nat×Nat×Nat)):=rfl
 rw[e];simp[asInt,asIntOf];omega
theorem aa5{t:Nat×Nat×Nat}(h:yt b=some t):b=[.int .u64 (t.1:Int),.int .u64 (t.2.1:Int),.int .u64 (t.2.2:Int)]:=by
 have d:∀ {v:V}{n:Nat},za v=some n→v=.int .u64 (n:Int):=by
  intro v n h;cases v with
  |int k m=>cases k<;>cases m<;>first|(cases h;done)|(cases h;rfl)
  |_=>cases h
 match b,h with
 |[a,i,c],h=>
  obtain⟨x,e,h⟩:=aD.1 (show av (za a) _=some t from h);obtain⟨y,f,h⟩:=aD.1 h;obtain⟨z,g,h⟩:=aD.1 h;cases h;rw[d e,d f,d g]
 |[],h=>cases h
 |[_],h=>cases h
 |[_,_],h=>cases h
 |_::_::_::_::_,h=>cases h
variable{C:List V→Option bx}{G:bx}
theorem ahw{f:Func}(D:ρ (.func A)=.func (.func A) #[] #[]) (z:P.funcs[A]? =some f) (y:f.body=none) (B:f.origin= "") (g:IK f.name=some C) {c:Array Operand}
 (k:bC φ b (c.toList.map ρ)) (a:C b=some G):fH P φ ρ ⟨dst,.call ⟨.value (.func A),c,u⟩,ty,pos,after,guard⟩ G:=by
 intro w;have j:c.map ρ=⟨c.toList.map ρ⟩:=by apply rI;simp
 unfold IK at g;split at g
 ·rename_i d;cases g;obtain⟨t,x,a⟩:=aD.1 (show av (yt b) _=some G from a);obtain⟨i,a⟩:=cS.1 a;cases a;rw[eN]at i;have:=aa5 x;subst this;have s:c.toList.map ρ=[.int .u64 (t.1:Int),.int .u64 (t.2.1:Int),.int .u64 (t.2.2:Int)]:=by
   generalize c.toList.map ρ=m at k
   cases k with|cons l n=>cases n with|cons o p=>cases p with|cons q r=>cases r;cases l;cases o;cases q;rfl
  rw[s]at j;refine⟨.tuple ⟨[.int .u64 (((t.1+t.2.1+t.2.2)%18446744073709551616:Nat):Int),.int .u64 (((t.1+t.2.1+t.2.2)/18446744073709551616:Nat):Int)]⟩,?_,.aK (.cons (.int _ _) (.cons (.int _ _) .nil))⟩;have v:Extern.find f=some Dq:=by
   simp[Extern.find,d,ail,ars,apO,am7]
  refine Yk D z y (by rw[d];decide) (by simp[Extern.findNext,d,B,anY,aa7]) v ?_;rw[j];simp only[Dq,c8,acX _ _ _ _ i,dS,fC];rfl
 ·split at g
  ·rename_i d;cases g;obtain⟨t,x,a⟩:=aD.1 (show av (yt b) _=some G from a);obtain⟨i,a⟩:=cS.1 a;cases a;rw[eN]at i;have:=aa5 x;subst this;have s:c.toList.map ρ=[.int .u64 (t.1:Int),.int .u64 (t.2.1:Int),.int .u64 (t.2.2:Int)]:=by
    generalize c.toList.map ρ=m at k
    cases k with|cons l n=>cases n with|cons o p=>cases p with|cons q r=>cases r;cases l;cases o;cases q;rfl
   rw[s]at j;have v:Extern.find f=some Kw:=by
    simp[Extern.find,d,aim,art,apS,am8]
   refine⟨.tuple ⟨[.int .u64 (((t.1+18446744073709551616-t.2.1-t.2.2)%18446744073709551616:Nat):Int),.int .u64 ((if t.1<t.2.1+t.2.2 then 1 else 0:Nat):Int)]⟩,?_,?_⟩
   ·refine Yk D z y (by rw[d];decide) (by simp[Extern.findNext,d,B,an0,aa7]) v ?_;rw[j];simp only[Kw,c8,acX _ _ _ _ i,dS,fC];rfl
   ·refine .aK (.cons (.int _ _) (.cons ?_ .nil));by_cases h:t.2.1+t.2.2≤t.1
    ·have e:b8 (fW t.2.1 t.2.2) t.1=true:=(eN _ _).2 h;rw[e,au aa];exact .int _ _
    ·have e:b8 (fW t.2.1 t.2.2) t.1=false:=mB.2 (fun E=>h ((eN _ _).1 E));rw[e,ay aa];exact .int _ _
  ·cases g
end
section
variable {P:Program}{φ:aO}{ρ:Operand→Value}{dst:Option Tmp}{ty:TypeId}{pos:String}{after:Array Edge}{guard:Option (Nat×Bool)}{T:cE}
theorem ajy(hT:c4 P T)(a:T.bQ e=some E)(b:ue E=true)(w:World):(isAgg e).run P w=.ok false w:=by
 have c:=run_underlying (hT.bQ a) w;cases E<;>first|(cases b;done)|simp[isAgg,c]
theorem JS(hT:c4 P T)(a:T.bQ e=some E)(b:ue E=true){cs:Array Value}{i:Nat}{v:Value}(h:cs[i]? =some v)(w:World):(part e cs i).run P w=.ok v w:=by
 simp[part,ajy hT a b,h]
variable{s:V}
theorem afN(hT:c4 P T)(j:T.bQ e=some E){y:V}{g:Value}(o:aS φ s w)(p:aS φ y g)(h:vH E s y=some m)(n:Nat)(c:World):(Op.equalIn (n+1) e w g).run P c=.ok m c:=by
 have l:=run_underlying (hT.bQ j) c;cases E<;>first|(cases h;done)|skip
 case int=>
  cases o<;>first|(cases h;done)|skip
  cases p<;>first|(cases h;done)|skip
  rename_i k a f b;obtain⟨d,h⟩:=cS.1 (show bq (gN k f) (some (lA a b))=some m from h);cases h;rw[we]at d;have i:k=f:=by simpa using d
  simp only[Op.equalIn,c8,l,dS,i,if_true,fC,qd];rfl
theorem Ih{ds:List TypeDesc}{c:List V}(h:lY (E::ds) b c=some m):
 ∃x e y f a d,b=x::e∧c=y::f∧vH E x y=some a∧lY ds e f=some d∧m=and a d:=by
 cases b with
 |nil=>cases h
 |cons x b=>cases c with
  |nil=>cases h
  |cons y c=>
   obtain⟨a,g,h⟩:=aD.1 (show av (vH E x y) (fun m=>av (lY ds b c) fun s=>some (and m s))=some m from h);obtain⟨d,i,h⟩:=aD.1 h;cases h;exact⟨x,b,y,c,a,d,rfl,rfl,g,i,rfl⟩
theorem Iz{l:List h}{b:h}{r:List h}(c:l.drop a=b::r):l[a]? =some b∧l.drop (a+1)=r:=by
 have d:(l.drop a)[0]? =some b:=by rw[c];rfl
 rw[pJ]at d;refine⟨d,?_⟩;have:=congrArg (List.drop 1) c;rw[List.drop_drop]at this;simpa using this
theorem bC.cons_inv(h:bC φ (s::b) D):∃c d,D=c::d∧aS φ s c∧bC φ b d:=by
 cases h with
 |cons a e=>exact⟨_,_,rfl,a,e⟩
theorem ajA(hT:c4 P T)(g:T.bQ e=some E)(m:ue E=true)(n:Nat)(k l:List Value)(w:World):∀(f i:Nat) (c d:List V) (r:Bool),bC φ c (k.drop i)→bC φ d (l.drop i)→lY (yJ E f) c d=some r→
 (do let q←forIn (List.range' i f) ((none:Option Bool),()) (fun j _=>do
      let b←Op.equalIn (n+1) e (←part e ⟨k⟩ (j*1)) (←part e ⟨l⟩ (j*1))
      if(!b)=true then pure (ForInStep.done (some false,()))else pure (ForInStep.yield (none,())))
     match q.1 with
     |some a=>pure a
     |none=>pure true:Sem Bool).run P w=.ok r w:=by
 intro f;induction f with
 |zero=>
  intro i c d r _ _ h;have A:lY [] c d=some r:=h;cases c<;>cases d<;>cases A;simp
 |succ f K=>
  intro i c d r B G h;obtain⟨x,c,y,d,a,b,rfl,rfl,t,u,rfl⟩:=Ih (show lY (E::yJ E f) c d=some r from h);obtain⟨O,R,F,C,D⟩:=B.cons_inv;obtain⟨Q,S,J,H,I⟩:=G.cons_inv;obtain⟨v,p⟩:=Iz F;obtain⟨z,s⟩:=Iz J;have o:=K (i+1) c d b (by rw[p];exact D) (by rw[s];exact I) u;have L:=JS hT g m (cs:=⟨k⟩) (i:=i*1) (v:=O) (by simpa using v) w;have M:=JS hT g m (cs:=⟨l⟩) (i:=i*1) (v:=Q) (by simpa using z) w;have N:=afN hT g C H t n w;rw[List.range'_succ,List.forIn_cons];simp only[c8,L,M,N,dS]at o⊢;cases a
  ·simp
  ·simpa using o
theorem adX(hT:c4 P T){ds:List TypeDesc}(c:zv T e=some ds){g:List V}{j:List Value}(u:bC φ b D)(v:bC φ g j)(h:lY ds b g=some m)(w:World):
 (Op.equal e (.agg ⟨D⟩) (.agg ⟨j⟩)).run P w=.ok m w:=by
 obtain⟨d,q,c⟩:=aD.1 (show av (T.bQ e) _=some ds from c);have t:=hT.bQ q;unfold Op.equal;cases d<;>first|(cases c;done)|skip
 case array n f=>
  obtain⟨y,r,c⟩:=aD.1 (show av (T.bQ f) _=some ds from c);obtain⟨o,c⟩:=cS.1 c;obtain⟨i,p,c⟩:=aD.1 c;obtain⟨k,c⟩:=cS.1 c;cases c;rw[beq_eq]at k;have s:(sizeOf f).run P w=.ok 1 w:=by
   have:=o_ (hT.info f i p) w;simp[sizeOf,this,k]
  rw[show Op.maxDepth=9998+1+1 from rfl];have:=ajA hT r o 9998 D j w n 0 b g m u v h;unfold Op.equalIn;simp only[c8,run_underlying t,dS,s];simp at this⊢;refine Eq.trans ?_ this;congr 1;funext a z;obtain⟨l,x⟩:=a;cases l<;>rfl
theorem auJ(hT:c4 P T)(a:T.bQ e=some E)(b:ue E=true)(n:Nat)(x y:Value)(w:World):(Op.eqGuardIn (n+1) e x y).run P w=.ok false w:=by
 have c:=run_underlying (hT.bQ a) w;cases E<;>first|(cases b;done)|simp[Op.eqGuardIn,c]
end
section
variable {P:Program}{φ:aO}{H:ag}{w:World}{T:cE}{ρ:Operand→Value}{dst:Option Tmp}{ty:TypeId}{pos:String}{after:Array Edge}{guard:Option (Nat×Bool)}
theorem ais(a:Nat):∀r c,c≤a→Builtin.growBy a r c≤2*a+200:=by
 intro r;induction r with
 |zero=>intro c b;simp[Builtin.growBy];omega
 |succ r d=>
  intro c b;unfold Builtin.growBy;split
  ·omega
  ·by_cases h:c+(c+768)/4≤a
   ·exact d _ h
   ·have:∀r c,a≤c→Builtin.growBy a r c=c:=by
     intro r c b;cases r with
     |zero=>rfl
     |succ r=>unfold Builtin.growBy;rw[ay b]
    rw[this _ _ aa];omega
theorem nextslicecap_le{need old:Nat}(h:old<need):Builtin.nextslicecap need old≤2*need+200:=by
 unfold Builtin.nextslicecap;split
 ·omega
 ·split
  ·omega
  ·exact ais need 4 old aa
variable{N:TypeInfo}{p:IntKind}{u:Array TypeId}
theorem aea{st:TypeId}(y:P.underlying st=some (.slice e))(b:P.info? e=some N){z:Value}(f:N.zero=some z)(C:z.cells.size=N.size){g ty:TypeId}(B:P.underlying g=some (.int p))
 (k:u[0]? =some st) (d:u[1]? =some g) {kx:IntKind} (J:0<a) (G:a≤1099511627776) (H:a*N.bytes≤1099511627776):
 ∃c,a≤c∧(Builtin.append_ u ty #[.slice none 0 0,.int kx (a:Int)]).run P w=.ok (.slice (some ⟨w.heap.size,0,none⟩) a c) (w.drew.alloc (.cells (Builtin.zeroCells z.cells a++Builtin.zeroCells z.cells (c-a)) e)):=by
 have x:∀w,(sizeOf e).run P w=.ok N.size w:=by intro w;simp[sizeOf,o_ b]
 have i:(#[Value.slice none 0 0,.int kx (a:Int)]:Array Value)[0]? =some (.slice none 0 0):=rfl;have j:(#[Value.slice none 0 0,.int kx (a:Int)]:Array Value)[1]? =some (.int kx (a:Int)):=rfl;have t:¬(0+a≤0):=aa;have q:¬(((0+a:Nat):Int)>IntKind.i64.max):=by
  have:IntKind.i64.max=9223372036854775807:=aj;rw[this];omega
 have A:IntKind.i64.wrap (a:Int)=a:=by simp[qC,oy,oz];omega
 have r:¬((a:Int)<0):=aa;have l:¬((a:Int)*(N.bytes:Int)>2^48):=by
  have:((a*N.bytes:Nat):Int)≤1099511627776:=aa;rw[e7]at this;omega
 have m:¬(Builtin.nextslicecap (0+a) 0*N.bytes>2^48):=by
  have d:=nextslicecap_le (need:=0+a) (old:=0) aa;have D:Builtin.nextslicecap (0+a) 0*N.bytes≤(2*(0+a)+200)*N.bytes:=dz _ d;have E:(2*(0+a)+200)*N.bytes=2*(a*N.bytes)+200*N.bytes:=by rw[fB,cZ,cg]
  have F:N.bytes≤a*N.bytes:=Nat.le_mul_of_pos_left _ aa;omega
 let c:=Question.cut (.appendCap (0+a) 0 e) (w.tape w.drawn (.appendCap (0+a) 0 e));have I:0+a≤c:=qI _ _;have n:(choose (.appendCap (0+a) 0 e)).run P w=.ok c { w with drawn:=w.drawn+1 }:=by simp[Question.forced,c]
 refine⟨c,aa,?_⟩;have o:a*N.size=0→Builtin.zeroCells z.cells a=#[]:=fun h=>by
  simp[Builtin.zeroCells,C,h]
 unfold Builtin.append_;simp only[k,d,i,j,c8,run_underlying y,dS,x,run_underlying B,fC,if_true,asInt,asIntOf,A,au r,o_ b,au l,bN];simp only[au t,q,false_and,if_false,c8,fC,dS,o_ b,au m,n,run_askRoom,ry b f,newRow,run_newObj,dZ,kj];have v:∀w:World,(Builtin.firstCells N.size 0 (.slice none 0 0)).run P w=.ok #[] w:=fun w=>rfl
 have s:∀w:World,(if a*N.size=0 then(pure #[]:Sem (Array Value))else do
  let z←zeroValue e
  pure (Builtin.zeroCells z.cells a)).run P w=.ok (Builtin.zeroCells z.cells a) w:=fun w=>by
  by_cases h:a*N.size=0
  ·rw[ay h,o h];rfl
  ·rw[au h];simp only[c8,ry b f,dS,fC]
 rw[v];simp only[dS];rw[s];simp only[dS,fB,Array.empty_append];rfl
theorem anW{d:List V}{w:World}(h:rS φ (.cells (b++d) 0) a w q):rS φ (.cells b 0) a w q:=by
 obtain⟨e,f,g,n,j,k,l,m⟩:=h;cases j;refine⟨e,f,g,b,rfl,?_,fun i v c=>l i v ?_,m⟩
 ·rw[bt]at k;omega
 ·rw[k3 (fo.1 c).1];exact c
theorem anV{a:Array Value}(h:bC φ b a.toList)(w:World)(e:TypeId):rS φ (.cells b 0) a.size w (w.drew.alloc (.cells a e)):=
 have h:=yw h w.drew e
 ⟨h.size,h.old,⟨rfl,rfl,rfl,fun x=>h.same.free x,fun c b t d x=>h.same.shape c b t d x⟩,h.obj⟩
variable{s:V}{G:bx}
theorem ad'(hT:c4 P T){st t:TypeId}(J:T.bQ st=some (.slice e))(D:T.info e=some N)(M:zeroCells T e=some b)(W:b.length=N.size)
 (K:T.bQ t=some (.int p)) (v:u[0]? =some st) (A:u[1]? =some t) {x:Operand}{y:V} (l:aS φ s (ρ k)) (o:aS φ y (ρ x)) (h:xA N.bytes b [s,y]=some G):
 fH P φ ρ ⟨dst,.call ⟨.builtin .append,#[k,x],u⟩,ty,pos,after,guard⟩ G:=by
 intro w;generalize I:ρ k=X at l
 generalize L:ρ x=Y at o
 cases l<;>first|(cases h;done)|skip
 obtain⟨n,F,h⟩:=aD.1 (show av (fU y) _=some G from h);obtain⟨a,h⟩:=cS.1 h;cases h;rw[cz,eN]at a;obtain⟨C,a⟩:=a;have g:n≤1099511627776∧n*N.bytes≤1099511627776:=by
  have d:=(cz _ _).mp (show and (b8 n 1099511627776) (b8 (dW n N.bytes) 1099511627776)=true from a);exact⟨(eN _ _).1 d.1,(eN _ _).1 d.2⟩
 obtain⟨R,rfl⟩:=tq F;cases o;obtain⟨q,z,i,O,j⟩:=xe hT M;have E:q=N:=by have:=hT.info e N D;rw[i]at this;exact Option.some.inj this
 subst E;have Q:z.cells.size=q.size:=by have:=(j φ).length;simp at this;omega
 obtain⟨c,f,H⟩:=aea (P:=P) (w:=w) (ty:=ty) (hT.bQ J) i O Q (hT.bQ K) v A (kx:=R) (show 0<n from C) g.1 g.2;have r:∀m,bC φ (rep b m) (Builtin.zeroCells z.cells m).toList:=fun m=>J9 (j φ) m
 have S:bC φ (rep b n++rep b (c-n)) (Builtin.zeroCells z.cells n++Builtin.zeroCells z.cells (c-n)).toList:=by
  rw[Array.toList_append];exact(r n).append (r (c-n))
 refine⟨.slice (some ⟨w.heap.size,0,none⟩) n c,_,_,?_,anW (anV S w e),fun Z U B=>.slice B f f⟩;simp only[execOp,resolve,invoke,builtin];simp[I,L,H]
end
theorem aeh{x y z:b4}(h:Bool.casesOn (motive:=fun _=>b4) m x y=z):x=z∨y=z:=by cases m<;>first|exact .inl h|exact .inr h
theorem aeq{x y z:Option b4}(h:Bool.casesOn (motive:=fun _=>Option b4) m x y=z):x=z∨y=z:=by cases m<;>first|exact .inl h|exact .inr h
theorem aod{o:Option h}{x z:Option b4}{f:h→Option b4}(a:Option.casesOn (motive:=fun _=>Option b4) o x f=z):x=z∨∃b,f b=z:=by cases o<;>first|exact .inl a|exact .inr ⟨_,a⟩
theorem dead{p q:Prop}(hc:p)(h:p→q:=by
 intro hc
 repeat' (first|(cases hc;done)|(obtain⟨_,hc⟩:=cS.1 hc)|(obtain⟨_,_,hc⟩:=aD.1 hc)|(replace hc:=dD hc aJ)|(rcases aod hc with hc|⟨_,hc⟩)|(rcases aeq hc with hc|hc)|(replace hc:=Option.some.inj hc)|(rcases aeh hc with hc|hc)|(split at hc)|(unfold Yi at hc)|(unfold oN at hc)|(unfold tu at hc)|(unfold xD at hc)|(unfold DF at hc)|(unfold DG at hc))):q:=h hc
def jo(P:Program)(N:eF):Prop:=∀f a,N.get none f=some a→P.funcs[f]? =some a
section
variable {P:Program}{φ:aO}{ρ:Operand→Value}{T:cE}{N:eF}{F:Fr}
theorem n8{f:Fr→V}(a:jc φ F ρ [k])(h:gQ k=some f):aS φ (f F) (ρ k):=a k aJ f h
theorem w5{y:Operand}(g:jc φ F ρ [k,y])(h:hL [k,y]=some t):∃a b,vals t F=[a,b]∧aS φ a (ρ k)∧aS φ b (ρ y):=by
 have:=ny h g;generalize vals t F=l at this
 cases this with
 |cons c d=>cases d with
  |cons e f=>cases f;exact⟨_,_,rfl,c,e⟩
theorem lk{b:Array h}{x:h}(c:eu b.toList a=some x):b[a]? =some x:=by rw[iW]at c;simpa using c
variable{C:List V→Option bx}{G:bx}
theorem aoS{l:BinOp}{z:TypeId}{y:Operand}{r:Option Tmp}{x:TypeId}{w:String}{after:Array Edge}{guard:Option (Nat×Bool)}(hT:c4 P T){q:List (Fr→V)}
 (h:hL [k,y]=some q) (g:tu T l e q=.pu t C) (A:jc φ F ρ [k,y]) (c:C (vals t F)=some G):fH P φ ρ ⟨r,.binOp l e k y z,x,w,after,guard⟩ G:=by
 unfold tu at g;obtain⟨a,b,n,i,j⟩:=w5 A h;split at g
 ·rename_i J s;split at g
  ·rename_i f m;cases g;rw[n]at c;generalize o:ρ k=D at i
   generalize p:ρ y=E at j
   cases i<;>first|(cases c;done)|skip
   cases j<;>first|(cases c;done)|skip
   exact ajw m c o p
  ·cases g
 ·split at g
  ·rename_i f m;cases g;rw[n]at c;generalize o:ρ k=D at i
   generalize p:ρ y=E at j
   cases i<;>first|(cases c;done)|skip
   cases j<;>first|(cases c;done)|skip
   exact aqP m c o p
  ·cases g
 ·rename_i d H I s;have u:∀neg,l=(if neg then .neq else .eql)→nX neg d (vals q F)=some G→fH P φ ρ ⟨r,.binOp l e k y z,x,w,after,guard⟩ G:=by
   intro neg B c;rw[n]at c;obtain⟨v,c⟩:=cS.1 (show bq (vV d a) (IG neg [a,b])=some G from c);refine ag' B (hT.bQ s) i j ?_ v c rfl rfl;cases d<;>simp[vV]at v⊢
  split at g
  ·cases g;exact u false rfl c
  ·cases g;exact u true rfl c
  ·cases g
 ·cases g
theorem aoU{d:TypeId}{m:Option Tmp}{s:TypeId}{r:String}{after:Array Edge}{guard:Option (Nat×Bool)}(hT:c4 P T){f:Fr→V}
 (h:gQ k=some f) (a:oN T e d [f]=.pu t C) (p:jc φ F ρ [k]) (j:C (vals t F)=some G):fH P φ ρ ⟨m,.convert e d k,s,r,after,guard⟩ G:=by
 have b:=n8 p h;unfold oN at a;split at a
 ·rename_i w l i c;cases a;have g:(match [f F]with|[.int _ n]=>ic l (aG l n)|_=>none)=some G:=j;generalize f F=v at b g
  generalize q:ρ k=y at b
  cases b<;>first|(cases g;done)|skip
  cases g;exact agi q (hT.bQ i) (hT.bQ c)
 ·rename_i u i c;split at a
  ·rename_i o;cases a;exact aq9 (hT.bQ i) (hT.bQ c) (hT.bQ o) b j
  ·cases a
 ·split at a
  ·cases a
  ·cases a
 ·cases a
end
section
variable {P:Program}{φ:aO}{ρ:Operand→Value}{T:cE}{N:eF}{F:Fr}
theorem acW{y z:Operand}(m:jc φ F ρ [k,y,z])(h:hL [k,y,z]=some t):∃a b c,vals t F=[a,b,c]∧aS φ a (ρ k)∧aS φ b (ρ y)∧aS φ c (ρ z):=by
 have:=ny h m;generalize vals t F=l at this
 cases this with
 |cons d e=>cases e with
  |cons f g=>cases g with
   |cons i j=>cases j;exact⟨_,_,_,rfl,d,f,i⟩
variable{u:Array TypeId}{C:List V→Option bx}{G:bx}
theorem aoT{b:Builtin}{o:Array Operand}{J:Option Tmp}{R:String}{after:Array Edge}{guard:Option (Nat×Bool)}(hT:c4 P T){I:List (Fr→V)}
 (h:hL o.toList=some t) (c:xD T b u.toList t=.pu I C) (L:jc φ F ρ o.toList) (g:C (vals I F)=some G):fH P φ ρ ⟨J,.call ⟨.builtin b,o,u⟩,e,R,after,guard⟩ G:=by
 have c:=dD c aJ;obtain⟨W,M,c⟩:=aD.1 c;obtain⟨d,r,c⟩:=aD.1 c;have w:=lk M;have j:=ny h L;have B:∀ {f:V→Option bx},un f (vals t F)=some G→∃x v,o=#[x]∧aS φ v (ρ x)∧f v=some G:=by
  intro f n;generalize vals t F=l at j n
  obtain⟨m⟩:=o
  match l,n with
  |[v],n=>
   match m with
   |[]=>cases j
   |[x]=>cases j with|cons q k=>exact⟨x,v,rfl,q,n⟩
   |_::_::_=>cases j with|cons q k=>cases k
  |[],n=>cases n
  |_::_::_,n=>cases n
 cases b<;>simp only[reduceCtorEq]at c
 case append=>
  split at c
  ·rename_i U;obtain⟨i,K,c⟩:=aD.1 c;obtain⟨z,A,c⟩:=aD.1 c;obtain⟨Y,Q,c⟩:=aD.1 c;obtain⟨H,c⟩:=cS.1 c;rw[beq_eq,gx]at H;cases z
   ·cases c
   ·cases c;obtain⟨X,O,A⟩:=aD.1 A;obtain⟨S,N,A⟩:=aD.1 A;cases S<;>first|(cases A;done)|skip
    generalize vals t F=l at j g
    obtain⟨m⟩:=o
    match l,g with
    |[s,y],g=>
     match m with
     |[]=>cases j
     |[_]=>cases j with|cons _ k=>cases k
     |[a,b]=>cases j with|cons q k=>cases k with|cons D E=>exact ad' hT r K Q H N w (lk O) q D g
     |_::_::_::_=>cases j with|cons q k=>cases k with|cons D E=>cases E
    |[],g=>cases g
    |[_],g=>cases g
    |_::_::_::_,g=>cases g
  ·cases c
 case cap=>
  split at c
  ·cases c;obtain⟨x,v,rfl,p,g⟩:=B g;exact afD w (hT.bQ r) p g
  ·cases c
 case copy=>
  split at c
  ·obtain⟨s,_,c⟩:=aD.1 c;cases c
  ·cases c
 case len=>
  split at c
  ·cases c;obtain⟨x,v,rfl,p,g⟩:=B g;exact amS w (hT.bQ r) p g
  ·cases c;obtain⟨x,v,rfl,p,g⟩:=B g;exact amQ w (hT.bQ r) p g
  ·cases c;obtain⟨x,v,rfl,p,g⟩:=B g;cases g;exact amP w (hT.bQ r)
  ·cases c
  ·cases c
 case max=>cases c;exact anq j g
 case min=>cases c;exact anu j g
theorem aby(hT:c4 P T)(cA:jo P N)(a8:∀f,ρ (.func f)=.func (.func f) #[] #[]) (o:Oper) (g:cop N T o.op=.pu t C) (A:jc φ F ρ o.op.operands.toList) (j:C (vals t F)=some G):fH P φ ρ o G:=by
 obtain⟨bc,Y,ty,bi,after,guard⟩:=o;simp only at g A;cases Y<;>simp only[cop,reduceCtorEq]at g<;>simp only[Op.operands]at A
 case move x=>
  obtain⟨f,r,g⟩:=aD.1 (dD g aJ);cases g;cases j;exact anx (n8 A r)
 case pick c x y=>
  obtain⟨I,r,g⟩:=aD.1 (dD g aJ);cases g;obtain⟨a,b,d,B,w,M,h3⟩:=acW A r;rw[B]at j;generalize D:ρ c=c' at w
  cases w<;>first|(cases j;done)|skip
  rename_i H;cases H
  ·cases j;exact abr D (by simpa using h3)
  ·cases j;exact abr D (by simpa using M)
 case alloc H=>
  obtain⟨zs,X,g⟩:=aD.1 (dD g aJ);cases g;cases j;exact ad0 hT X
 case box H x=>
  obtain⟨f,r,g⟩:=aD.1 (dD g aJ);cases g;obtain⟨hk,j⟩:=cS.1 (show bq (bP (f F)) (some (bx.new (cellsOf (f F)) .ptr))=some G from j);cases j;exact aey (n8 A r) hk
 case build H parts=>exact aeB hT g A j
 case buildSlice H n parts=>exact aeA hT g A j
 case nilCheck x=>
  obtain⟨f,r,g⟩:=aD.1 (dD g aJ);cases g;have w:=n8 A r;have z:yx [f F]=some G:=j;generalize f F=v at w z
  generalize D:ρ x=x' at w
  cases w<;>first|(cases z;done)|skip
  ·rename_i b o l R;cases z;exact aa8 D (.ptr R)
  ·rename_i k c o cs vs y Q g B;cases z;exact aa8 D (.dm Q g B)
 case binOp Y H x y bs=>
  obtain⟨I,r,g⟩:=aD.1 (dD g aJ);cases O:tu T Y H I<;>rw[O]at g<;>simp only[Option.some.injEq,reduceCtorEq,b4.pu.injEq]at g;obtain⟨rfl,rfl⟩:=g;exact aoS hT r O A j
 case unOp Y H x=>
  obtain⟨f,r,g⟩:=aD.1 (dD g aJ);have w:=n8 A r;cases Y<;>simp only[reduceCtorEq]at g
  ·cases g;have z:(match [f F]with|[.int k n]=>ic k (aG k (Int.sub (.ofNat 0) n))|_=>none)=some G:=j;generalize f F=v at w z
   generalize D:ρ x=x' at w
   cases w<;>first|(cases z;done)|skip
   cases z;exact anU D
  ·cases g;have z:(match [f F]with|[.bool b]=>iq (!b)|_=>none)=some G:=j;generalize f F=v at w z
   generalize D:ρ x=x' at w
   cases w<;>first|(cases z;done)|skip
   cases z;exact an6 D
 case convert s d x=>
  obtain⟨f,r,g⟩:=aD.1 (dD g aJ);cases O:oN T s d [f]<;>rw[O]at g<;>simp only[Option.some.injEq,reduceCtorEq,b4.pu.injEq]at g;obtain⟨rfl,rfl⟩:=g;exact aoU hT r O A j
 case makeFunc Z first captured=>
  cases Z<;>simp only[reduceCtorEq]at g;obtain⟨I,r,g⟩:=aD.1 (dD g aJ);cases g;obtain⟨q,D,j⟩:=aD.1 j;cases j;obtain⟨a,J,D⟩:=aD.1 D;cases D;have V:jc φ F ρ (ez first.toList captured.toList):=by
   rw[iV];intro y W;exact A y (by simpa using W)
  have B:=ny r V;rw[iV,List.map_append]at B;rw[gx]at J;rw[eR]at J;split at J
  ·cases J;have K:first.toList.length=(first.toList.map ρ).length:=aJ
   refine anj ?_ ?_
   ·have:=B.take first.toList.length
    rw[K,oD]at this;rw[←K]at this;exact this
   ·have:=B.drop first.toList.length
    rw[K,List.drop_left]at this;rw[←K]at this;rw[gx,jT];exact this
  ·cases J
 case makeSlice H l c=>
  obtain⟨I,r,g⟩:=aD.1 (dD g aJ);obtain⟨d,E,g⟩:=aD.1 g;cases d<;>simp only[reduceCtorEq]at g;obtain⟨i,Q,g⟩:=aD.1 g;obtain⟨zs,X,g⟩:=aD.1 g;obtain⟨L,g⟩:=cS.1 g;cases g;rw[beq_eq,gx]at L;obtain⟨a,b,B,w,M⟩:=w5 A r;rw[B]at j;exact anm hT E Q X L w M j
 case slice H x lo Q mx=>
  obtain⟨I,r,g⟩:=aD.1 (dD g aJ);obtain⟨d,E,g⟩:=aD.1 g;have V:jc φ F ρ (x::(lo.toList++Q.toList++mx.toList)):=by
   intro y W;refine A y ?_;cases lo<;>cases Q<;>cases mx<;>simpa using W
  cases d<;>simp only[reduceCtorEq]at g
  case string=>
   cases g;obtain⟨a,l,h,m,J,K,S,U,_,j⟩:=Kq r V j;cases a<;>first|(cases j;done)|skip
   exact aqv (n:=1) (hT.bQ E) J K S U ⟨_,rfl⟩ j
  case slice e=>
   obtain⟨s,L,g⟩:=aD.1 g;cases g;obtain⟨a,l,h,m,J,K,S,U,ab,j⟩:=Kq r V j;have ae:∀s,a≠ .str s:=by intro s he;subst he;cases j
   have z:yQ s a l h m=some G:=by
    cases a<;>first|exact absurd rfl (ae _)|exact j
   exact aqu hT E L J K S U ab ae z
  case array n e=>
   obtain⟨s,L,g⟩:=aD.1 g;cases g;obtain⟨a,l,h,m,J,K,S,U,ab,j⟩:=Kq r V j;exact aqr hT E L J K S U ab j
 case fieldAddr s x f=>
  obtain⟨p,r,g⟩:=aD.1 (dD g aJ);obtain⟨d,E,g⟩:=aD.1 g;cases d<;>simp only[reduceCtorEq]at g;obtain⟨fd,ad,g⟩:=aD.1 g;obtain⟨n,hn,g⟩:=aD.1 g;obtain⟨X,g⟩:=cS.1 g;cases g;rw[iW]at ad;exact ahK hT E ad hn (by intro h0;subst h0;simp[fy]at X) (n8 A r) j
 case indexAddr H x i=>
  obtain⟨I,r,g⟩:=aD.1 (dD g aJ);obtain⟨d,E,g⟩:=aD.1 g;obtain⟨a,b,B,w,M⟩:=w5 A r;cases d<;>simp only[reduceCtorEq]at g
  case slice e=>
   obtain⟨s,L,g⟩:=aD.1 g;cases g;rw[B]at j;exact ajs hT E L w M j
  case array n e=>
   obtain⟨s,L,g⟩:=aD.1 g;cases g;rw[B]at j;exact ajr hT E L w M j
 case index H x i=>
  obtain⟨I,r,g⟩:=aD.1 (dD g aJ);obtain⟨d,E,g⟩:=aD.1 g;obtain⟨a,b,B,w,M⟩:=w5 A r;cases d<;>simp only[reduceCtorEq]at g
  case string=>
   cases g;rw[B]at j;exact aju (hT.bQ E) w M j
 case extract x i=>
  obtain⟨f,r,g⟩:=aD.1 (dD g aJ);cases g;have w:=n8 A r;have z:x3 i [f F]=some G:=j;generalize f F=v at w z
  cases v<;>first|(cases z;done)|skip
  obtain⟨u,hu,z⟩:=aD.1 (show av (eu _ i) (fun v=>some (bx.val v))=some G from z);cases z;rw[iW]at hu;exact ahx w hu
 case call c=>
  obtain⟨callee,aw,ts⟩:=c;have ac:=dD g aJ;clear g;have g:=ac;clear ac;have al:jc φ F ρ aw.toList:=fun y W=>A y (by simp[Call.operands];exact .inr (by simpa using W))
  cases callee with
  |value x=>
   cases x<;>simp only[]at g
   case func f=>
    obtain⟨Z,a3,g⟩:=aD.1 g;obtain⟨I,r,g⟩:=aD.1 g;cases R:Z.body with
    |some c=>rw[R]at g;cases g
    |none=>
     rw[R]at g;obtain⟨a7,g⟩:=cS.1 g;obtain⟨g',a4,g⟩:=aD.1 g;cases g;exact ahw (a8 f) (cA f Z a3) R (by simpa using a7) a4 (ny r al) j
   all_goals
    obtain⟨I,r,g⟩:=aD.1 g;cases g
  |invoke x m=>cases g
  |builtin b=>
   obtain⟨I,r,g⟩:=aD.1 g;cases O:xD T b ts.toList I<;>rw[O]at g<;>simp only[Option.some.injEq,reduceCtorEq,b4.pu.injEq]at g;obtain⟨rfl,rfl⟩:=g;exact aoT hT r O al j
 all_goals exact dead g
end
section
variable {P:Program}{φ:aO}{ρ:Operand→Value}{T:cE}{N:eF}{F:Fr}{H:ag}{w:World}
variable{x:V→V→Option Bool}
theorem yc(h:qe T e=some x):∃n f ds,T.bQ e=some (.array n f)∧zv T e=some ds∧
 x=fun a b=>match a with|.agg i=>(match b with|.agg y=>lY ds i y|_=>aW)|_=>aW:=by
 obtain⟨ds,c,h⟩:=aD.1 (show av (zv T e) _=some x from h);cases h;obtain⟨d,g,h⟩:=aD.1 (show av (T.bQ e) _=some ds from c);cases d<;>first|(cases h;done)|exact⟨_,_,_,g,c,rfl⟩
variable{s:V}
theorem Jk{ds:List TypeDesc}{b:V}(h:(match s with|.agg x=>(match b with|.agg y=>lY ds x y|_=>aW)|_=>aW)=some m):∃x y,s=.agg x∧b=.agg y∧lY ds x y=some m:=by
 cases s<;>first|(cases h;done)|skip
 cases b<;>first|(cases h;done)|skip
 exact⟨_,_,rfl,rfl,h⟩
theorem aS.xx{v:Value}(h:aS φ (.agg b) v):∃a,v=.agg ⟨a⟩∧bC φ b a:=by
 cases h with
 |agg h=>exact⟨_,rfl,h⟩
theorem aaw(hT:c4 P T)(j:qe T e=some x){b:V}{a c:Value}(g:aS φ s a)(i:aS φ b c)(h:x s b=some m)(w:World):(Op.equal e a c).run P w=.ok m w:=by
 obtain⟨_,_,ds,_,d,rfl⟩:=yc j;obtain⟨n,y,rfl,rfl,f⟩:=Jk h;obtain⟨o,rfl,k⟩:=g.xx;obtain⟨p,rfl,l⟩:=i.xx;exact adX hT d k l f w
theorem ap6(c b:Value):Instr.sameNow (.array a e) c b=none:=by
 cases c<;>cases b<;>rfl
def qz(φ:aO)(i:Nat):List (V×V)→List MapEntry→Prop
 |[],[]=>True
 |(k,v)::a,e::b=>aS φ k e.key∧aS φ v e.val∧e.born=i∧qz φ (i+1) a b
 |_,_=>False
theorem ag9:∀ {i:Nat},qz φ i L S↔S.length=L.length∧∀j k v,L[j]? =some (k,v)→∃e:MapEntry,S[j]? =some e∧aS φ k e.key∧aS φ v e.val∧e.born=i+j:=by
 induction L generalizing S with
 |nil=>
  intro i;cases S with
  |nil=>simp[qz]
  |cons=>simp[qz]
 |cons x L r=>
  intro i;obtain⟨k,v⟩:=x;cases S with
  |nil=>simp[qz]
  |cons e S=>
   simp only[qz,r,di];constructor
   ·rintro⟨l,c,u,w,q⟩;refine⟨aa,?_⟩;intro j g h a;cases j with
    |zero=>
     simp at a;obtain⟨rfl,rfl⟩:=a;exact⟨e,aJ,l,c,aa⟩
    |succ j=>
     obtain⟨d,b,f,g3,p⟩:=q j g h (by simpa using a);exact⟨d,by simpa using b,f,g3,aa⟩
   ·rintro⟨l,c⟩;obtain⟨s,b,f,g3,p⟩:=c 0 k v aJ;simp at b;subst b;refine⟨f,g3,aa,aa,?_⟩;intro j g h a;obtain⟨d,m,n,o,t⟩:=c (j+1) g h (by simpa using a);exact⟨d,by simpa using m,n,o,aa⟩
theorem aaQ:pK φ L S↔qz φ 0 L S:=by
 rw[ag9];simp[pK]
theorem aaT{e:V×V}{r:Option (Nat×V)}(h:n4 x s (e::L) a=some r):
 ∃b,x s e.1=some b∧((b=true∧r=some (a,e.2))∨(b=false∧n4 x s L (a+1)=some r)):=by
 obtain⟨b,c,h⟩:=aD.1 (show av (x s e.1) (fun r=>Bool.casesOn (motive:=fun _=>Option (Option (Nat×V))) r (n4 x s L (a+1)) (some (some (a,e.2))))=some r from h);cases b with
 |true=>cases h;exact⟨true,c,.inl ⟨rfl,rfl⟩⟩
 |false=>exact⟨false,c,.inr ⟨rfl,h⟩⟩
def Lc(φ:aO):Option (Nat×V)→Option (Nat×Value)→Prop
 |none,none=>True
 |some (i,v),some (j,a)=>i=j∧aS φ v a
 |_,_=>False
theorem ahL(hT:c4 P T)(k:qe T e=some x){m:Value}(l:aS φ s m)(w:World):∀ {c:List (V×V)}{a:List MapEntry}{i:Nat}{r:Option (Nat×V)},qz φ i c a→n4 x s c i=some r→
 ∃f,(Instr.findAsking e m a i).run P w=.ok f w∧Lc φ r f:=by
 intro c;induction c with
 |nil=>
  intro a i r d h;cases a with
  |nil=>cases h;exact⟨none,rfl,trivial⟩
  |cons=>exact d.elim
 |cons z c y=>
  intro a i r d h;obtain⟨B,v⟩:=z;cases a with
  |nil=>exact d.elim
  |cons n a=>
   obtain⟨g,q,A,t⟩:=d;obtain⟨b,j,⟨rfl,rfl⟩|⟨rfl,u⟩⟩:=aaT h
   ·exact⟨some (i,n.val),by simp[Instr.findAsking,aaw hT k l g j],rfl,q⟩
   ·obtain⟨f,o,p⟩:=y t u;exact⟨f,by simp[Instr.findAsking,aaw hT k l g j,o],p⟩
theorem Zu(hT:c4 P T)(g:qe T e=some x){i:Value}(m:aS φ s i){r:Option (Nat×V)}(l:pK φ L S)(h:n4 x s L 0=some r)(w:World):
 ∃c,(Instr.findKey e i S).run P w=.ok c w∧Lc φ r c:=by
 have f:=aaQ.1 l;obtain⟨_,_,ds,d,p,q⟩:=yc g;cases S with
 |nil=>
  cases L with
  |nil=>cases h;exact⟨none,by simp[Instr.findKey,run_underlying (hT.bQ d),Instr.findNow],trivial⟩
  |cons n L=>obtain⟨a,b⟩:=n;exact f.elim
 |cons o S=>
  obtain⟨c,j,k⟩:=ahL hT g m w f h;exact⟨c,by simp[Instr.findKey,run_underlying (hT.bQ d),Instr.findNow,ap6,j],k⟩
theorem afY(hT:c4 P T)(b:T.bQ e=some E)(c:ue E=true)(a:Bool)(n:Nat)(v:Value)(w:World):(Instr.checkKey a (n+1) e v).run P w=.ok () w:=by
 have d:=run_underlying (hT.bQ b) w;cases E<;>first|(cases c;done)|(simp only[Instr.checkKey,c8,d,dS];rfl)
theorem afZ(hT:c4 P T)(k:T.bQ e=some E)(l:ue E=true)(g:Bool)(n:Nat)(f:List Value)(w:World)(u:(sizeOf e).run P w=.ok 1 w):∀(d i:Nat) (c:List V) (r:Bool),bC φ c (f.drop i)→lY (yJ E d) c c=some r→
 (forIn (List.range' i d) PUnit.unit (fun j _=>do
   Instr.checkKey g (n+1) e (←part e ⟨f⟩ (j*(←sizeOf e)))
   pure (ForInStep.yield PUnit.unit)):Sem PUnit).run P w=.ok () w:=by
 intro d;induction d with
 |zero=>intro i c r _ _;simp
 |succ d B=>
  intro i c r v h;obtain⟨x,c,y,I,a,b,rfl,t,F,q,rfl⟩:=Ih (show lY (E::yJ E d) c c=some r from h);cases t;obtain⟨o,H,A,G,z⟩:=v.cons_inv;obtain⟨s,p⟩:=Iz A;have m:=B (i+1) c b (by rw[p];exact z) q;have C:=JS hT k l (cs:=⟨f⟩) (i:=i*1) (v:=o) (by simpa using s) w;have D:=afY hT k l g n o w;rw[List.range'_succ,List.forIn_cons];simp only[c8,u,C,D,dS,fC]at m⊢;exact m
theorem Ys(hT:c4 P T)(r:qe T e=some x){j:Value}(t:aS φ s j)(h:x s s=some m)(c:Bool)(w:World):(Instr.checkKey c 10000 e j).run P w=.ok () w:=by
 obtain⟨n,b,ds,f,a,rfl⟩:=yc r;obtain⟨A,y,rfl,q,k⟩:=Jk h;cases q;obtain⟨B,rfl,z⟩:=t.xx;obtain⟨C,g,a⟩:=aD.1 (show av (T.bQ e) _=some ds from a);rw[f]at g;cases g;have v:=hT.bQ f;obtain⟨D,p,a⟩:=aD.1 (show av (T.bQ b) _=some ds from a);obtain⟨l,a⟩:=cS.1 a;obtain⟨i,o,a⟩:=aD.1 a;obtain⟨d,a⟩:=cS.1 a;cases a;rw[beq_eq]at d;have u:(sizeOf b).run P w=.ok 1 w:=by
  have:=o_ (hT.info b i o) w;simp[sizeOf,this,d]
 have:=afZ hT p l c 9998 B w u n 0 A m z k;rw[show(10000:Nat)=9998+1+1 from rfl];unfold Instr.checkKey;simp only[c8,run_underlying v,dS];simp at this⊢;rw[this];rfl
theorem Jr(h:H.iG a=some L):H.get a=.cv (.map L):=by
 unfold ag.iG at h;cases b:H.get a<;>rw[b]at h<;>first|(cases h;done)|skip
 rename_i o;cases o<;>cases h;rfl
theorem yp(e:Rel φ H w)(d:φ a=some Q)(h:H.iG a=some L):∃b,w.heap[Q.c]? =some (.map ⟨b⟩ L.length)∧pK φ L b:=(e.cv d (Jr h)).2
def Jd:Obj→Bool
 |.cells _ _ _=>true
 |_=>false
theorem sO{o:Obj}(h:w.heap[a]? =some o)(b:Jd o=false):(getObj a).run P w=.ok o w:=by
 cases o<;>first|(cases b;done)|simp[getObj,Sem.run,h]
section
variable {dst:Option Tmp}{ty:TypeId}{pos:String}{after:Array Edge}{guard:Option (Nat×Bool)}
theorem am9(hT:c4 P T)(Y:Rel φ H w){z d:TypeId}{y:Operand}(S:T.bQ e=some (.map z d))(n:qe T z=some x){i:TypeInfo}(W:T.info d=some i){K:Value}(Z:i.zero=some K)(ab:m0 20 K=some s)
 {I c:V} (D:aS φ I (ρ k)) (C:aS φ c (ρ y)) {v:V} (A:sy x s m [I,c] H=some v):∃a,(execOp ρ ⟨dst,.lookup e k y m,ty,pos,after,guard⟩).run P w=.ok (.value a) w∧aS φ v a:=by
 obtain⟨b,R,h⟩:=aD.1 (show av (x c c) _=some v from A);clear A;have p:=run_underlying (hT.bQ S) w;have g:=fun L=>Ys hT n C R L w
 have F:=ry (hT.info d i W) Z w;have G:=CM φ _ _ _ ab;have o:∀ {v:V}{a:Value} (b:Bool),aS φ v a→aS φ (sB m v b) (if m then .tuple #[a,.bool b]else a):=by
  intro v a b E;cases m
  ·exact E
  ·exact .aK (.cons E (.cons (.bool b) .nil))
 generalize t:ρ k=x' at D
 cases D<;>first|(cases h;done)|skip
 ·rename_i ac l X;obtain⟨es,O,h⟩:=aD.1 (show av (H.iG ac) _=some v from h);obtain⟨r,Q,h⟩:=aD.1 h;obtain⟨al,M,N⟩:=yp Y X O;obtain⟨J,g3,f⟩:=Zu hT n C N Q w;have B:=sO (P:=P) M rfl;cases r with
  |none=>
   cases h;cases J with
   |none=>
    refine⟨_,?_,o false G⟩;simp only[execOp,Instr.lookup,t,c8,p,dS,B,g,g3,F,fC]
   |some q=>exact f.elim
  |some q=>
   obtain⟨j,u⟩:=q;cases h;cases J with
   |none=>exact f.elim
   |some q'=>
    obtain⟨j',u'⟩:=q';refine⟨_,?_,o true f.2⟩;simp only[execOp,Instr.lookup,t,c8,p,dS,B,g,g3,fC]
 ·cases h;refine⟨_,?_,o false G⟩;have g3:(Instr.findKey z (ρ y) []).run P w=.ok none w:=by
   obtain⟨_,_,_,U,_⟩:=yc n;simp[Instr.findKey,run_underlying (hT.bQ U),Instr.findNow]
  simp only[execOp,Instr.lookup,t,c8,p,dS,g,g3,F,fC]
variable{u:Array TypeId}
theorem amR(hT:c4 P T)(q:Rel φ H w){r g:TypeId}(n:T.bQ e=some (.map r g))(b:u[0]? =some e)(a:aS φ s (ρ k)){v:V}(h:sx [s] H=some v):
 ∃f,(execOp ρ ⟨dst,.call ⟨.builtin .len,#[k],u⟩,ty,pos,after,guard⟩).run P w=.ok (.value f) w∧aS φ v f:=by
 have c:=run_underlying (hT.bQ n) w;generalize d:ρ k=z at a
 cases a<;>first|(cases h;done)|skip
 ·rename_i t l p;obtain⟨x,m,h⟩:=aD.1 (show av (H.iG t) _=some v from h);cases h;obtain⟨y,i,j⟩:=yp q p m;have o:=sO (P:=P) i rfl;refine⟨_,?_,.int .i64 _⟩;simp[execOp,resolve,invoke,builtin,Builtin.len_,d,b,c,o,goInt,gx,j.1]
 ·cases h;refine⟨_,?_,.int .i64 _⟩;simp[execOp,resolve,invoke,builtin,Builtin.len_,d,b,c,goInt]
theorem ag_:∀ {i j:Nat}{e:V×V},qz φ i L S→L[j]? =some e→∃x:MapEntry,S.find? (fun x=>x.born==i+j)=some x∧aS φ e.1 x.key∧aS φ e.2 x.val:=by
 induction L generalizing S with
 |nil=>intro i j e _ h;simp at h
 |cons y L m=>
  intro i j e b h;obtain⟨k,v⟩:=y;cases S with
  |nil=>exact b.elim
  |cons x S=>
   obtain⟨f,g,a,l⟩:=b;cases j with
   |zero=>
    simp at h;subst h;exact⟨x,by simp[a],f,g⟩
   |succ j=>
    obtain⟨n,c,d,g3⟩:=m l (by simpa using h);refine⟨n,?_,d,g3⟩;rw[List.find?_cons_of_neg (by simp[a])];rw[←c];congr 1;funext q;congr 1;omega
theorem ag8(q:Rel φ H w)(p:aS φ s (ρ k)){v:V}(h:qU [s] H=some v):
 ∃t,(execOp ρ ⟨dst,.entry k,ty,pos,after,guard⟩).run P w=.ok (.value t) w∧aS φ v t:=by
 generalize L:ρ k=Q at p
 cases p<;>first|(cases h;done)|skip
 rename_i b o l E;cases o with
 |succ o=>cases h
 |zero=>
  have a:(match H.get b with
   |.cv (.iter s _ _ d r)=>av (H.iG s) fun c=>bq (bK (cP c) r)<|av d fun i=>av (eu c i) fun e=>some (.aK [e.1,e.2])
   |_=>aW)=some v:=h
  cases n:H.get b<;>rw[n]at a<;>first|(cases a;done)|skip
  rename_i M;cases M<;>first|(cases a;done)|skip
  rename_i O since left d r;obtain⟨c,D,a⟩:=aD.1 a;obtain⟨g,a⟩:=cS.1 a;obtain⟨i,j,a⟩:=aD.1 a;obtain⟨e,m,a⟩:=aD.1 a;cases a;obtain⟨G,N,seen,z,A,_,C,_⟩:=q.cv E n;obtain⟨u,g3,B⟩:=yp q z D;rw[beq_eq,gx]at g;rw[←C]at j;rw[iW]at m;obtain⟨k,f,x,y⟩:=ag_ (aaQ.1 B) m;rw[fB]at f;have J:=sO (P:=P) A rfl;have K:=sO (P:=P) g3 rfl;refine⟨.tuple #[k.key,k.val],?_,.aK (.cons x (.cons y .nil))⟩;have F:(⟨seen⟩:Array Nat).back?=some i:=by rw[Array.back?_eq_getElem?];simpa [List.getLast?_eq_getElem?]using j
  simp only[execOp,Instr.entry,L,G,cO,c8,J,dS,F,K,g];have I:(⟨u⟩:Array MapEntry).find? (fun k=>k.born==i)=some k:=by simpa using f
  simp[I]
end
end
theorem ag.a_(H:ag)(a b:Nat)(o:eg):(H.set a o).get b=if a=b then o else H.get b:=bM.a_ eg.none H.m a b o
theorem ag.bE(H:ag)(b:Nat)(o:eg):(H.push o).get b=if H.next=b then o else H.get b:=bM.a_ eg.none H.m H.next b o
theorem gi:c.gh a g=true↔g=0∨∃d b,c.get g=.b5 d b∧b≤a:=by
 cases g with
 |zero=>exact⟨fun _=>.inl rfl,fun _=>rfl⟩
 |succ g=>
  have e:c.gh a (g+1)=eg.casesOn (motive:=fun _=>Bool) (c.get (g+1)) false (fun _ _=>false) (fun _ b=>b8 b a) (fun _=>false):=rfl;rw[e];cases h:c.get (g+1)with
  |b5 d b=>simp;exact⟨fun h=>⟨_,_,⟨rfl,rfl⟩,h⟩,fun⟨_,_,⟨_,e⟩,h⟩=>e▸h⟩
  |_=>simp
theorem cells?_some(h:c.cells? a=some b):∃g,c.get a=.cells b g∧c.gh a g=true:=by
 unfold ag.cells? at h;cases d:c.get a with
 |cells i g=>
  rw[d]at h;obtain⟨e,f⟩:=cS.1 h;cases f;exact⟨g,rfl,e⟩
 |_=>rw[d]at h;cases h
section
variable {P:Program}{φ:aO}{H:ag}{w:World}
theorem am4(j:Rel φ H w)(f:φ a=some Q){v:V}(h:H.load a g=some v):∃b,w.cell? ⟨Q.c,Q.base+g,none⟩=some b∧aS φ v b:=by
 obtain⟨k,i,h⟩:=aD.1 h;obtain⟨l,d,e⟩:=cells?_some i;rw[iW]at h;exact j.cell f d e h
variable{z:Nat}
theorem wk(D:Rel φ H w)(A:φ a=some Q)(h:H.dw a g z=some b):
 ∃o,o.length=z∧bC φ b o∧∀j v,o[j]? =some v→w.cell? ⟨Q.c,Q.base+g+j,none⟩=some v:=by
 obtain⟨l,B,h⟩:=aD.1 h;obtain⟨E,t,y⟩:=cells?_some B;rw[eR,jT]at h;split at h
 ·rename_i C;cases h;rw[gF]at C;have q:∀j,j<z→∃v e,l[g+j]? =some v∧w.cell? ⟨Q.c,Q.base+g+j,none⟩=some e∧aS φ v e:=by
   intro j k;have s:g+j<l.length:=aa;obtain⟨e,f,d⟩:=D.cell A t y (i:=g+j) (v:=l[g+j]) (by simp[s]);exact⟨_,e,by simp[s],by rw[←jq]at f;exact f,d⟩
  refine⟨(lS z).map fun j=>(w.cell? ⟨Q.c,Q.base+g+j,none⟩).getD undef,aJ,?_,?_⟩
  ·refine .abf (by simp;omega) (fun i x n=>?_);have m:i<z:=by
    have:=(fo.1 n).1;simp at this;omega
   obtain⟨v,e,f,d,p⟩:=q i m;have:x=v:=by
    rw[u9 m,pJ,f]at n;exact(Option.some.inj n).symm
   subst this;exact⟨e,by simp[m,d],p⟩
  ·intro j v k;have r:j<z:=by
    have:=(fo.1 k).1;simpa using this
   obtain⟨u,F,f,d,p⟩:=q j r;simp[r,d]at k;rw[d,k]
 ·cases h
variable{I:Nat}
theorem Kd(l:Rel φ H w){q:List V}{y:Obj}(h:φ.im a=some y)(f:bC φ b D)(m:∀i v,D[i]? =some v→Obj.at y (g+i) v)(d:cF (eA b z) I=some q):
 ∃e,e.length=I∧bC φ q e∧∀j v,e[j]? =some v→w.cell? ⟨a,g+z+j,none⟩=some v:=by
 rw[eR,jT]at d;split at d
 ·rename_i k;cases d;rw[gF]at k;have n:=f.length;refine⟨(D.drop z).take I,by simp;omega,(f.drop z).take I,?_⟩;intro j v c;rw[List.getElem?_take]at c;split at c
  ·rw[pJ]at c;have:=m _ _ c w a (l.fj h).obj;rw[jq];exact this
  ·cases c
 ·cases d
variable {ρ:Operand→Value}{T:cE}{N:eF}{F:Fr}
theorem yN(c:D.length=z)(h:∀j v,D[j]? =some v→w.cell? ⟨a,g+j,none⟩=some v):(loadCells ⟨a,g,none⟩ z).run P w=.ok D.toArray w:=by
 rw[←c];exact run_loadCells_list w _ D (fun j v b=>by rw[k7];exact h j v b)
variable{s:V}
theorem aaL(hT:c4 P T)(r:Rel φ H w)(p:T.isAgg e=some m)(B:iw T e=some a){D:Value}(G:aS φ s D){v:V}(h:hH m a [s] H=some v):
 ∃u,D=.pointer (some u)∧∃i,(loadVar e u).run P w=.ok i w∧aS φ v i:=by
 cases G<;>first|(cases h;done)|skip
 ·rename_i b o l z;refine⟨_,rfl,?_⟩;cases m with
  |false=>
   obtain⟨i,f,g⟩:=am4 r z (show H.load b o=some v from h);exact⟨i,by simp[loadVar,Cr hT p,f],g⟩
  |true=>
   obtain⟨d,n,h⟩:=aD.1 (show av (H.dw b o a) (fun d=>some (.agg d))=some v from h);cases h;obtain⟨t,f,g,j⟩:=wk r z n;refine⟨.agg ⟨t⟩,?_,.agg g⟩;simp only[loadVar,c8,Cr hT p,dS,if_true,kV hT B,yN f j,fC]
 ·rename_i k c o d I y A n C;refine⟨_,rfl,?_⟩;have E:=(r.fj A).obj;cases m with
  |false=>
   have x:eu d k=some v:=h;rw[iW]at x;obtain⟨i,f,g⟩:=n.get _ _ x;have j:=C _ _ f w c E;exact⟨i,by simp[loadVar,Cr hT p,j],g⟩
  |true=>
   obtain⟨q,F,h⟩:=aD.1 (show av (cF (eA d k) a) (fun d=>some (.agg d))=some v from h);cases h;obtain⟨t,f,g,j⟩:=Kd r A n C F;refine⟨.agg ⟨t⟩,?_,.agg g⟩;simp only[loadVar,c8,Cr hT p,dS,if_true,kV hT B,yN f j,fC]
variable{i:List UInt8}
theorem Mp(h:bC φ b D)(a:bytesOf b=some i):D=i.map fun c=>Value.int .u8 c.toNat:=by
 induction b generalizing D i with
 |nil=>cases h;cases a;rfl
 |cons v b j=>
  cases h with
  |cons d e=>
   cases d<;>first|(cases a;done)|skip
   rename_i k n;cases k<;>cases n<;>first|(cases a;done)|skip
   rename_i n;obtain⟨f,a⟩:=cS.1 (show bq (b8 (Nat.succ n) 256) (av (bytesOf b) fun r=>some (gG n::r))=some i from a);obtain⟨r,g,a⟩:=aD.1 a;cases a;rw[eN]at f;rw[j e g];simp;omega
variable{R:List V→ag→Option V}
theorem abT(hT:c4 P T)(K:Rel φ H w)(o:Oper)(g:cop N T o.op=.rd t R)(J:jc φ F ρ o.op.operands.toList){v:V}(h:R (vals t F) H=some v):
 ∃U,(execOp ρ o).run P w=.ok (.value U) w∧aS φ v U:=by
 obtain⟨a3,bo,ty,bs,after,guard⟩:=o;simp only at g J;cases bo<;>simp only[cop,reduceCtorEq]at g<;>simp only[Op.operands]at J
 case load a2 a=>
  obtain⟨f,I,g⟩:=aD.1 (dD g aJ);obtain⟨R,hg,g⟩:=aD.1 g;obtain⟨n,hn,g⟩:=aD.1 g;cases g;obtain⟨b2,p,U,A,h3⟩:=aaL hT K hg hn (n8 J I) (show hH R n [f F] H=some v from h);exact⟨U,by simp[execOp,Instr.loadAt,p,u6,A],h3⟩
 case convert s d x=>
  obtain⟨f,I,g⟩:=aD.1 (dD g aJ);have B:oN T s d [f]=.rd t R:=Option.some.inj g;unfold oN at B;split at B<;>first|(cases B;done)|skip
  ·split at B<;>cases B
  ·rename_i e L r;split at B
   ·rename_i D;cases B;have p:=n8 J I;have k:rD [f F] H=some v:=h;generalize f F=u at p k
    generalize hq:ρ x=x' at p
    have O:∀ {a:Option Addr}{len Q:Nat}{y:Value},(convert s d (.slice a len Q)).run P w=.ok y w→x'=.slice a len Q→(execOp ρ ⟨a3,.convert s d x,ty,bs,after,guard⟩).run P w=.ok (.value y) w:=by
     intro a len Q y h D;simp only[execOp,hq,D];rw[c8,h];rfl
    cases p<;>first|(cases k;done)|skip
    ·rename_i b o len Q M l hb a7 a0;obtain⟨X,a5,k⟩:=aD.1 (show av (H.dw b o len) _=some v from k);obtain⟨st,ap,k⟩:=aD.1 k;cases k;obtain⟨b0,Y,Z,ab⟩:=wk K hb a5;have ac:=Mp Z ap;subst ac;have ad:st.length=len:=by simpa using Y
     subst ad;refine⟨_,O ?_ rfl,.str st⟩;exact run_convert_bytes_back w s d e ⟨l.c,l.base+o,none⟩ M st (hT.bQ L) (hT.bQ D) (hT.bQ r) (fun j hj=>by
      rw[k7];exact ab j _ (by simp[hj]))
    ·cases k;refine⟨_,O ?_ rfl,.str []⟩;simp[convert,run_underlying (hT.bQ L),run_underlying (hT.bQ r),run_underlying (hT.bQ D),Conv.bytesToString];rfl
    ·cases k;rename_i a M;refine⟨_,O (y:=.string ⟨⟨[]⟩⟩) ?_ rfl,.str []⟩;simp[convert,run_underlying (hT.bQ L),run_underlying (hT.bQ r),run_underlying (hT.bQ D),Conv.bytesToString,loadCells,loadCellsFrom];rfl
    ·rename_i a M a0;cases k;refine⟨_,O (y:=.string ⟨⟨[]⟩⟩) ?_ rfl,.str []⟩;cases a with
     |none=>
      rw[a0 rfl];simp[convert,run_underlying (hT.bQ L),run_underlying (hT.bQ r),run_underlying (hT.bQ D),Conv.bytesToString];rfl
     |some a=>
      simp[convert,run_underlying (hT.bQ L),run_underlying (hT.bQ r),run_underlying (hT.bQ D),Conv.bytesToString,loadCells,loadCellsFrom];rfl
    ·rename_i n W o M X vs y hi g E a7;obtain⟨q,bb,k⟩:=aD.1 (show av (cF X n) _=some v from k);obtain⟨st,ap,k⟩:=aD.1 k;cases k;have ba:cF (eA X 0) n=some q:=by rw[jT];exact bb
     obtain⟨b0,Y,Z,ab⟩:=Kd K hi g E ba;have ac:=Mp Z ap;subst ac;have ad:st.length=n:=by simpa using Y
     subst ad;refine⟨_,O ?_ rfl,.str st⟩;exact run_convert_bytes_back w s d e ⟨W,o,none⟩ M st (hT.bQ L) (hT.bQ D) (hT.bQ r) (fun j hj=>by
      rw[k7];exact ab j _ (by simp[hj]))
   ·cases B
 case call W=>
  obtain⟨callee,a1,ts⟩:=W;have G:=dD g aJ;clear g;cases callee with
  |value x=>cases x<;>simp only[]at G<;>exact dead G
  |invoke x m=>cases G
  |builtin bi=>
   obtain⟨fs,ae,G⟩:=aD.1 G;have C:=dD (Option.some.inj G) aJ;clear G;obtain⟨a2,ht,C⟩:=aD.1 C;obtain⟨d,r,C⟩:=aD.1 C;cases bi<;>simp only[reduceCtorEq]at C
   case len=>
    cases d<;>simp only[reduceCtorEq,Option.some.injEq,b4.rd.injEq]at C;obtain⟨rfl,rfl⟩:=C;have a9:jc φ F ρ a1.toList:=fun y hy=>J y (by simp[Call.operands];simpa using hy)
    have E:=ny ae a9;generalize vals fs F=l at E h
    obtain⟨S⟩:=a1;cases S with
    |nil=>cases E;cases h
    |cons x S=>
     cases S with
     |nil=>
      cases E with
      |cons p A=>
       cases A;exact amR hT K r (lk ht) p h
     |cons y S=>
      cases E with
      |cons p A=>cases A with
       |cons A h3=>exact absurd h (by unfold sx;split<;>simp_all)
   all_goals exact dead C
 case lookup a2 x i ca=>
  obtain⟨fs,ae,g⟩:=aD.1 (dD g aJ);obtain⟨d,r,g⟩:=aD.1 g;cases d<;>simp only[reduceCtorEq]at g;obtain⟨f,I,g⟩:=aD.1 g;obtain⟨b',hi,g⟩:=aD.1 g;obtain⟨z,hz,g⟩:=aD.1 g;obtain⟨ce,bj,g⟩:=aD.1 g;cases g;obtain⟨a,b,E,p,A⟩:=w5 J ae;rw[E]at h;exact am9 hT K r I hi hz bj p A h
 case entry x=>
  obtain⟨f,I,g⟩:=aD.1 (dD g aJ);cases g;exact ag8 K (n8 J I) h
 case makeFunc f _ _=>
  cases f<;>simp only[reduceCtorEq]at g;exact dead g
 all_goals exact dead g
end
section
variable {P:Program}{φ:aO}{H:ag}{w:World}
theorem abh{v:V}{a:Value}(h:aS φ v a)(b:v.one=true):a.oneCell'=true:=by
 cases h<;>first|rfl|assumption|cases b
theorem Lx(h:bC φ b D)(e:de b=true):∀v∈D,v.oneCell'=true:=by
 induction b generalizing D with
 |nil=>cases h;simp
 |cons v b f=>
  cases h with
  |cons c d=>
   have a:and v.one (de b)=true:=e;rw[cz]at a;intro x hx;rcases gL.1 hx with rfl|hx
   ·exact abh c a.1
   ·exact f d a.2 x hx
theorem aqN(h:H.e5 a g b=some c):
 ∃f d,H.get a=.cells f d∧de b=true∧g+b.length≤f.length∧c.next=H.next∧
  (d=0∨∃o,H.get d=.b5 a o)∧
  ∀x,c.get x=if a=x then .cells (f.take g++b++f.drop (g+b.length)) d else if d=x∧d≠0 then .b5 a a else H.get x:=by
 unfold ag.e5 at h;cases k:H.get a with
 |cells f d=>
  rw[k]at h;obtain⟨q,h⟩:=cS.1 h;obtain⟨t,j,h⟩:=aD.1 h;rw[nu]at j;split at j
  ·rename_i s;cases j;cases d with
   |zero=>
    cases h;refine⟨f,0,rfl,q,s,rfl,.inl rfl,fun x=>?_⟩;rw[ag.a_];simp
   |succ d=>
    have i:eg.casesOn (motive:=fun _=>Option ag) (H.get (d+1)) aW (fun _ _=>aW)
     (fun m _=>bq (bK m a) (some ((H.set a (.cells (f.take g++b++f.drop (g+b.length)) (d+1))).set (d+1) (.b5 a a)))) (fun _=>aW)=some c:=h
    cases l:H.get (d+1)with
    |b5 m o=>
     rw[l]at i;obtain⟨r,i⟩:=cS.1 i;rw[beq_eq]at r;subst r;cases i;refine⟨f,d+1,rfl,q,s,rfl,.inr ⟨o,l⟩,fun x=>?_⟩;rw[ag.a_,ag.a_];by_cases n:d+1=x
     ·subst n;have:m≠d+1:=by intro e;rw[e,l]at k;cases k
      simp[this]
     ·by_cases p:m=x
      ·simp[p];intro e;exact absurd e n
      ·simp[n,p]
    |_=>rw[l]at i;cases i
  ·cases j
 |_=>rw[k]at h;cases h
theorem aqF(b a:List h)(o i:Nat)(d:o+a.length≤b.length):
 (b.take o++a++b.drop (o+a.length))[i]? =if o≤i∧i<o+a.length then a[i-o]? else b[i]? :=by
 by_cases c:i<o
 ·rw[eG,k3 (by simp;omega),u9 c,au aa]
 ·by_cases e:i<o+a.length
  ·rw[eG,pI (by simp;omega),k3 (by simp;omega),ay aa];congr 1;simp;omega
  ·rw[pI (by simp;omega),au aa,pJ];congr 1;simp;omega
theorem yP(b:Nat):∀(a:List Value) (o:Nat) (w:World),(w.setCells b o a).heap.size=w.heap.size
 |[],_,_=>rfl
 |v::r,o,w=>by
  show((w.setCell ⟨b,o,none⟩ v).setCells b (o+1) r).heap.size=_;rw[yP b r];simp[World.setCell]
theorem r7(b c:Nat)(h:b≠c):∀(a:List Value) (o:Nat) (w:World),(w.setCells b o a).heap[c]? =w.heap[c]?
 |[],_,_=>rfl
 |v::r,o,w=>by
  show((w.setCell ⟨b,o,none⟩ v).setCells b (o+1) r).heap[c]? =_;rw[r7 b c h r];simp[World.setCell,Array.getElem?_modify,h]
theorem ap7(w:World)(b o:Nat)(v:Value):gW w (w.setCell ⟨b,o,none⟩ v):=⟨rfl,rfl,rfl,fun{c i} h=>by
 obtain⟨⟨u,a⟩,j⟩:=h;refine⟨?_,by rw[World.frozen?_setCell];exact j⟩;by_cases e:(⟨b,o,none⟩:Addr)=⟨c,i,none⟩
 ·rw[←e]at a⊢;exact⟨v,World.cell?_setCell_same _ _ _ a⟩
 ·exact⟨u,by
   have:=World.cell?_setCells_out b [v] o w ⟨c,i,none⟩ (fun f g=>by
    simp only[]at f g⊢;refine m6 fun k=>e ?_
    have:i=o:=by simp at k;omega
    rw[this,f])
   exact this.trans a⟩,fun c d t l h=>by
 by_cases e:b=c
 ·subst e;exact⟨d.setIfInBounds o v,by simp[World.setCell,Array.getElem?_modify,h],aJ⟩
 ·exact⟨d,by simpa [World.setCell,Array.getElem?_modify,e]using h,rfl⟩⟩
theorem Kl(b:Nat):∀(a:List Value) (o:Nat) (w:World),gW w (w.setCells b o a)
 |[],_,w=>gW.refl w
 |v::r,o,w=>gW.trans (b:=w.setCell ⟨b,o,none⟩ v) (ap7 w b o v) (Kl b r (o+1) (w.setCell ⟨b,o,none⟩ v))
theorem CG(p:Rel φ H w)(A:φ a=some Q)(hv:bC φ b D)(h:H.e5 a g b=some c):
 (storeCells ⟨Q.c,Q.base+g,none⟩ D).run P w=.ok () (w.setCells Q.c (Q.base+g) D)∧Ext φ H w φ c (w.setCells Q.c (Q.base+g) D):=by
 obtain⟨cs,ad,t,h1,h2,h3,f,s⟩:=aqN h;have ci:=hv.length;have co:=p.len A t;have a1:∀j,j<D.length→(w.cell? ⟨Q.c,Q.base+g+j,none⟩).isSome=true:=fun j K=>by
  obtain⟨⟨u,J⟩,_⟩:=p.room A (i:=g+j) aa;rw[←jq]at J;rw[J];rfl
 have bs:∀j,j<D.length→w.frozen? ⟨Q.c,Q.base+g+j,none⟩=false:=fun j K=>by
  obtain⟨_,J⟩:=p.room A (i:=g+j) aa;rw[←jq]at J;exact J
 have a0:=run_storeCells_cells (P:=P) Q.c (Q.base+g) D 0 w (by simpa using a1) (by simpa using bs) (Lx hv h1);rw[cO]at a0;have ar:=World.cell?_setCells_in Q.c D (Q.base+g) w a1;have bj:∀ {l:Nat}{o:Loc}{G:List V}{z:Nat},φ l=some o→c.get l=.cells G z→c.gh l z=true→l≠a→o.c≠Q.c∧H.get l=.cells G z∧H.gh l z=true:=by
  intro l o G z k d m y;rw[s,au (fun e=>y e.symm)]at d;have C:H.get l=.cells G z:=by
   split at d
   ·cases d
   ·exact d
  have key:ad≠0→z≠ad:=by
   intro X L;subst L;rcases f with f|⟨I,f⟩
   ·exact X f
   ·have ch:=p.mem C X f;rcases gi.1 m with e|⟨Z,S,r,E⟩
    ·exact X e
    ·rw[s]at r;have bi:a≠z:=by intro e;rw[e,f]at t;cases t
     rw[au bi,ay ⟨rfl,X⟩]at r;cases r;omega
  refine⟨fun B=>?_,C,?_⟩
  ·obtain⟨F,a2,T,L,U,W⟩:=(p.inj k A B y).resolve_right (fun n=>by rw[t]at n;cases n.2);rw[C]at U;rw[t]at W;cases U;cases W;exact key L rfl
  ·rcases gi.1 m with e|⟨Z,S,r,E⟩
   ·exact gi.2 (.inl e)
   ·rw[s]at r;split at r
    ·cases r
    ·split at r
     ·rename_i q;exact absurd q.1.symm (key q.2)
     ·exact gi.2 (.inr ⟨Z,S,r,E⟩)
 have b':∀ {l:Nat}{o:Loc}{o1:nj},φ l=some o→c.get l=.cv o1→o.base=0∧sH φ (w.setCells Q.c (Q.base+g) D) o.c o1:=by
  intro l o o1 k d;have m:a≠l:=by intro e;rw[s,ay e]at d;cases d
  have y:H.get l=.cv o1:=by
   rw[s,au m]at d;split at d
   ·cases d
   ·exact d
  obtain⟨f1,f2⟩:=p.cv k y;refine⟨f1,f2.mono (aO.le_refl φ) (r7 _ _ ?_ _ _ _)⟩;intro B;obtain⟨_,_,_,_,F,_⟩:=(p.inj k A B.symm (fun e=>m e.symm)).resolve_right (fun n=>by rw[t]at n;cases n.2);rw[y]at F;cases F
 have Y:∀ {l:Nat}{o:Loc},φ l=some o→H.get l=.none→c.get l=.none∧(w.setCells Q.c (Q.base+g) D).heap[o.c]? =w.heap[o.c]? :=by
  intro l o k d;have m:a≠l:=by intro e;rw[←e,t]at d;cases d
  refine⟨?_,r7 _ _ ?_ _ _ _⟩
  ·rw[s,au m];split
   ·rename_i q;rcases f with f|⟨I,f⟩
    ·exact absurd f q.2
    ·rw[q.1,d]at f;cases f
   ·exact d
  ·intro B;obtain⟨_,_,_,_,F,_⟩:=(p.inj k A B.symm (fun e=>m e.symm)).resolve_right (fun n=>by rw[t]at n;cases n.2);rw[d]at F;cases F
 refine⟨a0,⟨⟨?_,?_,?_,?_,?_,?_,?_,?_,b',fun e=>(p.fj e).keep (r7 _ _ (fun B=>(p.fj e).r6 A (by rw[t];simp) B) _ _ _) (fun l o k d=>(Y k ((p.fj e).off l o k d)).1),fun{x ce cf} e=>by
  rw[h3];rw[s]at e;split at e
  ·cases e;exact p.lu t
  ·split at e
   ·cases e
   ·exact p.lu e⟩,aO.le_refl φ,fun k d=>absurd (k.symm.trans d) aJ,?_,Nat.le_of_eq h3.symm,?_,by rw[yP];exact aR _,Kl _ _ _ _,Y,fun _ _ e=>.inl e⟩⟩
 ·intro l o G z i v k d m y;by_cases ap:l=a
  ·subst ap;rw[A]at k;cases k;rw[s,ay rfl]at d;cases d;rw[aqF _ _ _ _ h2]at y;split at y
   ·rename_i hi;obtain⟨N,C,r⟩:=hv.get _ _ y;refine⟨N,?_,r⟩;have K:i-g<D.length:=aa;have:=ar (i-g) K;have E:Q.base+g+(i-g)=Q.base+i:=aa;rw[E]at this;rw[this];rw[←C];simp[K]
   ·rename_i hi;have b0:H.gh l ad=true:=by
     rcases f with f|⟨I,f⟩
     ·exact gi.2 (.inl f)
     ·exact gi.2 (.inr ⟨_,I,f,p.lp f⟩)
    obtain⟨N,C,r⟩:=p.cell A t b0 y;refine⟨N,?_,r⟩;rw[World.cell?_setCells_out _ _ _ _ _ (fun _ _=>by simp;omega)];exact C
  ·obtain⟨C,r,E⟩:=bj k d m ap;obtain⟨N,a7,a8⟩:=p.cell k r E y;refine⟨N,?_,a8⟩;rw[World.cell?_setCells_out _ _ _ _ _ (fun e _=>absurd e C)];exact a7
 ·intro l o i k d;obtain⟨⟨u,J⟩,hf⟩:=p.room k d;refine⟨?_,by rw[World.frozen?_setCells];exact hf⟩;by_cases B:o.c=Q.c∧Q.base+g≤o.base+i∧o.base+i<Q.base+g+D.length
  ·have K:o.base+i-(Q.base+g)<D.length:=aa;have:=ar _ K;have E:Q.base+g+(o.base+i-(Q.base+g))=o.base+i:=aa;rw[E]at this;rw[B.1];exact⟨_,this⟩
  ·refine⟨u,?_⟩;rw[World.cell?_setCells_out _ _ _ _ _ (fun e _=>by simp at e⊢;omega)];exact J
 ·intro l o G z k d;rw[s]at d;split at d
  ·rename_i e;subst e;cases d;rw[A]at k;cases k;simp;omega
  ·split at d
   ·cases d
   ·exact p.len k d
 ·intro l cd o l2 k d m y;rcases p.inj k d m y with⟨F,a2,T,L,U,W⟩|⟨n1,n2⟩
  rotate_left
  ·exact .inr ⟨(Y k n1).1,(Y d n2).1⟩
  have am:∀ {x:Nat}{ac:List V},H.get x=.cells ac T→∃a',c.get x=.cells a' T:=by
   intro x ac M;rw[s];split
   ·rename_i e;subst e;rw[t]at M;cases M;exact⟨_,rfl⟩
   ·split
    ·rename_i q;rcases f with f|⟨I,f⟩
     ·exact absurd f q.2
     ·rw[q.1,M]at f;cases f
    ·exact⟨ac,M⟩
  obtain⟨a3,bd⟩:=am U;obtain⟨a5,be⟩:=am W;exact .inl ⟨a3,a5,T,L,bd,be⟩
 ·intro l k;rw[h3]at k;obtain⟨d,m⟩:=p.top k;refine⟨d,?_⟩;rw[s];split
  ·rename_i e;subst e;rw[t]at m;cases m
  ·split
   ·rename_i q;rcases f with f|⟨I,f⟩
    ·exact absurd f q.2
    ·rw[q.1,m]at f;cases f
   ·exact m
 ·intro l o k;rw[yP];exact p.loc k
 ·intro l G z Z I k d m;have R:∃O,H.get l=.cells O z:=by
   rw[s]at k;split at k
   ·rename_i e;subst e;cases k;exact⟨cs,t⟩
   ·split at k
    ·cases k
    ·exact⟨_,k⟩
  obtain⟨O,R⟩:=R;rw[s]at m;split at m
  ·cases m
  ·split at m
   ·rename_i q;cases m;rcases f with f|⟨S,f⟩
    ·exact absurd f q.2
    ·rw[q.1]at f;exact p.mem R d f
   ·exact p.mem R d m
 ·intro z Z I m;rw[s]at m;split at m
  ·cases m
  ·split at m
   ·cases m;exact aR _
   ·exact p.lp m
 ·intro x M hn b1;rw[s];split
  ·rename_i e;subst e;rw[A]at hn;cases hn
  ·split
   ·rename_i q;rcases f with f|⟨S,f⟩
    ·exact absurd f q.2
    ·rw[q.1]at f;exact absurd f (b1 _ _)
   ·rfl
 ·intro O B b2;exact r7 Q.c O (b2 a Q A) D _ w
end
def aO.add(φ:aO)(b:Nat)(l:Loc):aO:=⟨fun x=>if x=b then some l else φ x,φ.im⟩
theorem aO.add_get:n.add a Q g=if g=a then some Q else n g:=rfl
theorem aO.rV(φ:aO)(b:Nat)(l:Loc):φ.add b l b=some l:=by rw[aO.add_get,ay rfl]
theorem aO.um{l:Loc}(h:n a=none):n.le (n.add a l):=by
 refine⟨?_,fun _ _ h=>h⟩;intro x m b;rw[aO.add_get];split
 ·rename_i e;subst e;rw[h]at b;cases b
 ·exact b
section
variable {P:Program}{φ:aO}{H:ag}{w w':World}
theorem ab0(k:Rel φ H w):Rel φ (H.push (.cells b 0)) w:=by
 have m:∀ {d l},φ d=some l→H.next≠d:=fun{d l} h e=>by
  have:=(k.top (b:=d) aa).1;rw[h]at this;cases this
 have q:∀ {x a d},(H.push (.cells b 0)).get x=.b5 a d→H.get x=.b5 a d:=by
  intro x a d h;rw[ag.bE]at h;split at h
  ·cases h
  ·exact h
 have A:∀ {d g},d≠H.next→(H.push (.cells b 0)).gh d g=true→H.gh d g=true:=by
  intro d g s h;rcases gi.1 h with e|⟨a,c,e,t⟩
  ·exact gi.2 (.inl e)
  ·exact gi.2 (.inr ⟨a,c,q e,t⟩)
 refine⟨?_,k.room,?_,?_,?_,k.loc,?_,fun e=>k.lp (q e),fun{d l o} f j=>k.cv f (by rw[ag.bE,au (m f)]at j;exact j),fun e=>(k.fj e).keep rfl (fun d l f j=>by rw[ag.bE,au (m f)];exact(k.fj e).off d l f j),fun{x C u} e=>by
  show u<H.next+1
  rw[ag.bE]at e;split at e
  ·cases e;omega
  ·have:=k.lu e;omega⟩
 ·intro d l r g i v f j n p;rw[ag.bE,au (m f)]at j;exact k.cell f j (A (fun e=>m f e.symm) n) p
 ·intro d l r g f j;rw[ag.bE,au (m f)]at j;exact k.len f j
 ·intro d B l F f j n p;rw[ag.bE,au (m f),ag.bE,au (m j)];exact k.inj f j n p
 ·intro d s;have E:H.next+1≤d:=s
  obtain⟨y,z⟩:=k.top (b:=d) aa;refine⟨y,?_⟩;rw[ag.bE,au aa];exact z
 ·intro d r g G D f j n;rw[ag.bE]at f;split at f
  ·cases f;exact absurd rfl j
  ·exact k.mem f j (q n)
theorem abZ(j:Rel φ H w)(B:H.get a=.cells b 0)(O:φ a=none)(F:a<H.next)(h:rS φ (.cells b 0) g w w'):
 Rel (φ.add a ⟨w.heap.size,0,g⟩) H w':=by
 obtain⟨Q,K,N,J,P⟩:=h.obj;cases K;have D:=aO.um (l:=⟨w.heap.size,0,g⟩) O;have k:∀ {x:Nat}{l:Loc},φ.add a ⟨w.heap.size,0,g⟩ x=some l→(x=a∧l=⟨w.heap.size,0,g⟩)∨(x≠a∧φ x=some l):=by
  intro x l n;rw[aO.add_get]at n;split at n
  ·cases n;exact .inl ⟨by assumption,rfl⟩
  ·exact .inr ⟨by assumption,n⟩
 have m:∀ {c i:Nat},c<w.heap.size→w'.cell? ⟨c,i,none⟩=w.cell? ⟨c,i,none⟩:=by
  intro c i m;unfold World.cell?;rw[h.old c m]
 have L:∀ {c i:Nat},c<w.heap.size→w'.frozen? ⟨c,i,none⟩=w.frozen? ⟨c,i,none⟩:=by
  intro c i m;unfold World.frozen?;rw[h.old c m]
 have M:∀ {c:Nat}{x:Obj},φ.im c=some x→ox (φ.add a ⟨w.heap.size,0,g⟩) H w' c x:=by
  intro c x e;have C:=j.fj e;have F:=C.lt;refine C.keep (h.old c F) ?_;intro y l d f;rcases k d with⟨_,rfl⟩|⟨_,d⟩
  ·have:w.heap.size=c:=f;omega
  ·exact C.off _ _ d f
 refine⟨?_,?_,?_,?_,?_,?_,j.mem,j.lp,?_,M,j.lu⟩
 rotate_right
 ·intro x l o d f;rcases k d with⟨rfl,rfl⟩|⟨_,d⟩
  ·rw[B]at f;cases f
  ·obtain⟨s,r⟩:=j.cv d f;exact⟨s,r.mono D (h.old _ (j.loc d))⟩
 ·intro x l G I i v d f p q;rcases k d with⟨rfl,rfl⟩|⟨_,d⟩
  ·rw[B]at f;cases f;obtain⟨E,t,u⟩:=J i v q;exact⟨E,by simpa using t,u.mono D⟩
  ·obtain⟨E,t,u⟩:=j.cell d f p q;exact⟨E,by rw[m (j.loc d)];exact t,u.mono D⟩
 ·intro x l i d f;rcases k d with⟨rfl,rfl⟩|⟨_,d⟩
  ·simpa using P i f
  ·obtain⟨z,A⟩:=j.room d f;rw[m (j.loc d),L (j.loc d)];exact⟨z,A⟩
 ·intro x l G I d f;rcases k d with⟨rfl,rfl⟩|⟨_,d⟩
  ·rw[B]at f;cases f;exact N
  ·exact j.len d f
 ·intro x y l S d f p q;rcases k d with⟨rfl,rfl⟩|⟨_,s⟩
  ·rcases k f with⟨rfl,rfl⟩|⟨_,r⟩
   ·exact absurd rfl q
   ·have:=j.loc r;simp at p;omega
  ·have R:=j.loc s;rcases k f with⟨rfl,rfl⟩|⟨_,r⟩
   ·simp at p;omega
   ·exact j.inj s r p q
 ·intro x n;obtain⟨z,A⟩:=j.top n;refine⟨?_,A⟩;rw[aO.add_get];rw[au aa];exact z
 ·intro x l d;rw[h.size];rcases k d with⟨rfl,rfl⟩|⟨_,d⟩
  ·simp
  ·have:=j.loc d;omega
theorem ahs(i:Rel φ H w)(h:rS φ (.cells b 0) a w w'):
 Ext φ H w (φ.add H.next ⟨w.heap.size,0,a⟩) (H.push (.cells b 0)) w':=by
 have g:φ H.next=none:=(i.top (aR _)).1
 refine⟨abZ (ab0 i) (by rw[ag.bE,ay rfl]) g (by show H.next<H.next+1;omega) h,aO.um g,?_,?_,by show H.next≤H.next+1;omega,?_,by rw[h.size];omega,h.same,fun{j l} f d=>⟨by rw[ag.bE,au (fun e=>by rw[←e,g]at f;cases f)];exact d,h.old _ (i.loc f)⟩,fun _ _ e=>.inl e⟩
 ·intro j l f d;rw[aO.add_get]at d;split at d
  ·rename_i e;subst e;cases d;exact⟨aR _,.inl (aR _)⟩
  ·rw[f]at d;cases d
 ·intro j m _ _;rw[ag.bE,au aa]
 ·intro c k _;exact h.old c k
end
section
variable {P:Program}{φ:aO}{H:ag}{w:World}
def Fits(P:Program)(w:World)(b n:Nat)(x:Value)(a:List Value):Prop:=
 (Builtin.lenOf x).run P w=.ok n w∧∀k,(Builtin.firstCells b n x).run P { w with drawn:=w.drawn+k }=.ok ⟨a⟩ { w with drawn:=w.drawn+k }
variable{N:TypeInfo}{u:Array TypeId}{z:Nat}
theorem rX{st:TypeId}(t:P.underlying st=some (.slice e))(o:P.info? e=some N){d y:TypeId}(v:P.underlying d=some E)(A:∀k,E≠ .int k)
 (i:u[0]? =some st) (j:u[1]? =some d) {b:Addr}{x:Value} (l:Fits P w N.size z x D) (p:a+z≤g)
 (r:(storeCells (b.add (a*N.size)) D).run P w=.ok () q):
 (Builtin.append_ u y #[.slice (some b) a g,x]).run P w=.ok (.slice (some b) (a+z) g) q:=by
 obtain⟨m,n⟩:=l;have c:=n 0;simp only[cO]at c;unfold Builtin.append_;have f:(#[Value.slice (some b) a g,x]:Array Value)[0]? =some (.slice (some b) a g):=rfl;have h:(#[Value.slice (some b) a g,x]:Array Value)[1]? =some x:=rfl;have s:(sizeOf e).run P w=.ok N.size w:=by simp[sizeOf,o_ o]
 simp only[i,j,f,h,c8,run_underlying t,dS,s,run_underlying v,fC,kj,if_false,m,ay p,gS,if_true,c,r]
theorem Dv{st:TypeId}(G:P.underlying st=some (.slice e))(d:P.info? e=some N){z:Value}(I:N.zero=some z)(J:z.cells.size=N.size){h ty:TypeId}(H:P.underlying h=some E)(R:∀k,E≠ .int k)
 (l:u[0]? =some st) (b:u[1]? =some h) {a:Option Addr}{len cap:Nat}{x:Value}{old:List Value} (q:Fits P w N.size g x D) (v:cap<len+g)
 (B:∀k,(Builtin.firstCells N.size len (.slice a len cap)).run P { w with drawn:=w.drawn+k }=.ok ⟨old⟩ { w with drawn:=w.drawn+k })
 (O:len+g≤1099511627776) (Q:(len+g)*N.bytes≤1099511627776):
 ∃c,len+g≤c∧∃f:List Value,f.length=(c-(len+g))*N.size∧
  (Builtin.append_ u ty #[.slice a len cap,x]).run P w=.ok (.slice (some ⟨w.heap.size,0,none⟩) (len+g) c) (w.drew.alloc (.cells ⟨old++D++f⟩ e)):=by
 obtain⟨r,s⟩:=q;have t:=s 1;have C:=B 1;have F:∀w,(sizeOf e).run P w=.ok N.size w:=by intro w;simp[sizeOf,o_ d]
 have i:(#[Value.slice a len cap,x]:Array Value)[0]? =some (.slice a len cap):=rfl;have j:(#[Value.slice a len cap,x]:Array Value)[1]? =some x:=rfl;have A:¬(len+g≤cap):=aa;have y:¬(((len+g:Nat):Int)>IntKind.i64.max):=by
  have:IntKind.i64.max=9223372036854775807:=aj;rw[this];omega
 have o:¬(Builtin.nextslicecap (len+g) cap*N.bytes>2^48):=by
  have b:=nextslicecap_le v;have K:Builtin.nextslicecap (len+g) cap*N.bytes≤(2*(len+g)+200)*N.bytes:=dz _ b;have L:(2*(len+g)+200)*N.bytes=2*((len+g)*N.bytes)+200*N.bytes:=by rw[cZ,cg]
  have M:N.bytes≤(len+g)*N.bytes:=Nat.le_mul_of_pos_left _ aa;omega
 let c:=Question.cut (.appendCap (len+g) cap e) (w.tape w.drawn (.appendCap (len+g) cap e));have n:len+g≤c:=qI _ _;have p:(choose (.appendCap (len+g) cap e)).run P w=.ok c { w with drawn:=w.drawn+1 }:=by simp[Question.forced,c]
 refine⟨c,n,(Builtin.zeroCells z.cells (c-(len+g))).toList,by simp[Builtin.zeroCells,J],?_⟩;unfold Builtin.append_;simp only[l,b,i,j,c8,run_underlying G,dS,F,run_underlying H,fC,kj,if_false,r,au A,gS,if_true];simp only[y,false_and,if_false,c8,fC,dS,o_ d,au o,p,run_askRoom,C,t,ry d I,newRow,run_newObj];have m:(({ toList:=old }++ { toList:=D }++Builtin.zeroCells z.cells (c-(len+g)):Array Value))= { toList:=old++D++(Builtin.zeroCells z.cells (c-(len+g))).toList }:=by
  apply rI;simp
 rw[m];rfl
end
section
variable {P:Program}{φ:aO}{H H':ag}{w w':World}
structure u5 (H H':ag) (g:Nat) (cs:List V):Prop where
 get:∀x,H'.get x=if x=H.next then .cells cs g else if x=g then .b5 H.next H.next else H.get x
 lo:H.next<H'.next
 hi:g<H'.next
 g0:g≠0
 t_:g≠H.next
 old:H.next≤g∨∃leaf si,H.get g=.b5 leaf si
theorem Zb(s:Rel φ H w)(g:u5 H H' a b){l:Loc}
 (a3:∀ {x:Nat}{d:Loc}{n:List V}{q i:Nat},φ x=some d→H.get x=.cells n q→q≠a→w'.cell? ⟨d.c,d.base+i,none⟩=w.cell? ⟨d.c,d.base+i,none⟩)
 (be:∀ {x:Nat}{d:Loc}{i:Nat},φ x=some d→i<d.ji→(∃B,w'.cell? ⟨d.c,d.base+i,none⟩=some B)∧w'.frozen? ⟨d.c,d.base+i,none⟩=false)
 (a9:∀ {i:Nat}{v:V},b[i]? =some v→∃B,w'.cell? ⟨l.c,l.base+i,none⟩=some B∧aS φ v B)
 (bb:∀ {i:Nat},i<l.ji→(∃B,w'.cell? ⟨l.c,l.base+i,none⟩=some B)∧w'.frozen? ⟨l.c,l.base+i,none⟩=false)
 (a5:b.length≤l.ji) (S:∀ {x:Nat}{d:Loc},φ x=some d→d.c=l.c→∃n,H.get x=.cells n a)
 (a6:l.c<w'.heap.size) (al:w.heap.size≤w'.heap.size) (ad:∀ {u:Nat},u<w.heap.size→(∀r l,φ r=some l→l.c≠u)→w'.heap[u]? =w.heap[u]?) (hs:gW w w')
 (ab:w.heap.size≤l.c∨∃T I,φ T=some I∧I.c=l.c)
 (bc:∀ {x:Nat}{d:Loc}{o:nj},φ x=some d→H.get x=.cv o→w'.heap[d.c]? =w.heap[d.c]?)
 (ae:∀ {x:Nat}{d:Loc},φ x=some d→H.get x=.none→w'.heap[d.c]? =w.heap[d.c]?):Ext φ H w (φ.add H.next l) H' w':=by
 have hn:φ H.next=none:=(s.top (aR _)).1
 have O:=aO.um (l:=l) hn;have Y:∀ {x:Nat}{d:Loc},φ x=some d→x<H.next:=by
  intro x d h;rcases k4 x H.next with h1|h1
  ·exact h1
  ·rw[(s.top h1).1]at h;cases h
 have Z:∀ {x:Nat},H.get x≠ .none→x<H.next:=by
  intro x h;rcases k4 x H.next with h1|h1
  ·exact h1
  ·exact absurd (s.top h1).2 h
 have A:∀ {x:Nat}{d:Loc},φ.add H.next l x=some d→(x=H.next∧d=l)∨(x≠H.next∧φ x=some d):=by
  intro x l z;rw[aO.add_get]at z;split at z
  ·cases z;exact .inl ⟨by assumption,rfl⟩
  ·exact .inr ⟨by assumption,z⟩
 have L:∀ {x:Nat}{n:List V}{q:Nat},x≠H.next→H'.get x=.cells n q→H.get x=.cells n q:=by
  intro x n q h1 m;rw[g.get,au h1]at m;split at m
  ·cases m
  ·exact m
 have R:∀ {x t r:Nat},x≠a→H'.get x=.b5 t r→H.get x=.b5 t r:=by
  intro x t r h1 m;rw[g.get]at m;by_cases C:x=H.next
  ·rw[ay C]at m;cases m
  ·rw[au C,au h1]at m;exact m
 have M:∀ {x:Nat}{n:List V}{q:Nat},H.get x=.cells n q→H'.get x=.cells n q:=by
  intro x n q h1;rw[g.get,au (by have:=Z (x:=x) (by rw[h1];simp);omega),au ?_]
  ·exact h1
  ·intro e;subst e;rcases g.old with h|⟨t,r,h⟩
   ·rw[(s.top h).2]at h1;cases h1
   ·rw[h]at h1;cases h1
 have bd:∀ {x:Nat}{d:Loc}{o:nj},φ.add H.next l x=some d→H'.get x=.cv o→d.base=0∧sH (φ.add H.next l) w' d.c o:=by
  intro x d o j f;rcases A j with⟨h1,_⟩|⟨h1,k⟩
  ·rw[g.get,ay h1]at f;cases f
  ·have p:H.get x=.cv o:=by
    rw[g.get,au h1]at f;split at f
    ·cases f
    ·exact f
   obtain⟨F,f3⟩:=s.cv k p;exact⟨F,f3.mono O (bc k p)⟩
 have N:∀ {x:Nat}{d:Loc},φ x=some d→H.get x=.none→H'.get x=.none∧w'.heap[d.c]? =w.heap[d.c]? :=by
  intro x d j f;refine⟨?_,ae j f⟩;have z:=Y j;rw[g.get,au aa];split
  ·rename_i e;subst e;rcases g.old with h|⟨t,r,h⟩
   ·omega
   ·rw[h]at f;cases f
  ·exact f
 have a2:∀ {u:Nat}{x:Obj},φ.im u=some x→ox (φ.add H.next l) H' w' u x:=by
  intro u x e;have K:=s.fj e;have a7:=K.lt;have bj:w'.heap[u]? =w.heap[u]? :=by
   by_cases X:∃r l,φ r=some l∧l.c=u
   ·obtain⟨r,I,j,f⟩:=X;rw[←f];exact ae j (K.off _ _ j f)
   ·exact ad a7 (fun r I j f=>X ⟨r,I,j,f⟩)
  refine K.keep bj ?_;intro y d j f;rcases A j with⟨_,rfl⟩|⟨_,k⟩
  ·rcases ab with h1|⟨T,I,h1,m⟩
   ·omega
   ·obtain⟨n,C⟩:=S h1 m;rw[K.off _ _ h1 (m.trans f)]at C;cases C
  ·exact(N k (K.off _ _ k f)).1
 refine⟨⟨?_,?_,?_,?_,?_,?_,?_,?_,bd,a2,fun{x b0 b1} e=>by
  rw[g.get]at e;split at e
  ·cases e;exact g.hi
  ·split at e
   ·cases e
   ·exact oG (s.lu e) g.lo⟩,O,?_,?_,hD g.lo,ad,al,hs,N,fun _ _ e=>.inl e⟩
 ·intro x d n q i v j f p J;rcases A j with⟨rfl,rfl⟩|⟨h1,k⟩
  ·rw[g.get,ay rfl]at f;cases f;obtain⟨B,D,E⟩:=a9 J;exact⟨B,D,E.mono O⟩
  ·have U:=L h1 f;have ac:q≠a:=by
    intro e;subst e;rcases gi.1 p with e|⟨t,r,D,E⟩
    ·exact g.g0 e
    ·rw[g.get,au g.t_,ay rfl]at D;cases D;have:=Y k;omega
   have hl:H.gh x q=true:=by
    rcases gi.1 p with e|⟨t,r,D,E⟩
    ·exact gi.2 (.inl e)
    ·exact gi.2 (.inr ⟨t,r,R ac D,E⟩)
   obtain⟨B,D,E⟩:=s.cell k U hl J;exact⟨B,by rw[a3 k U ac];exact D,E.mono O⟩
 ·intro x d i j f;rcases A j with⟨rfl,rfl⟩|⟨_,k⟩
  ·exact bb f
  ·exact be k f
 ·intro x d n q j f;rcases A j with⟨rfl,rfl⟩|⟨h1,k⟩
  ·rw[g.get,ay rfl]at f;cases f;exact a5
  ·exact s.len k (L h1 f)
 ·intro x y d l2 j f p J;rcases A j with⟨h1,a0⟩|⟨h1,k⟩
  ·rcases A f with⟨m,W⟩|⟨m,F⟩
   ·exact absurd (h1.trans m.symm) J
   ·rw[a0]at p;obtain⟨n,Q⟩:=S F p.symm;exact .inl ⟨b,n,a,g.g0,by rw[g.get,ay h1],M Q⟩
  ·rcases A f with⟨m,W⟩|⟨m,F⟩
   ·rw[W]at p;obtain⟨n,Q⟩:=S k p;exact .inl ⟨n,b,a,g.g0,M Q,by rw[g.get,ay m]⟩
   ·rcases s.inj k F p J with⟨t,a',gg,C,P,h5⟩|⟨n1,n2⟩
    ·exact .inl ⟨t,a',gg,C,M P,M h5⟩
    ·exact .inr ⟨(N k n1).1,(N F n2).1⟩
 ·intro x z;have h1:=g.lo;have m:=g.hi;obtain⟨C,P⟩:=s.top (b:=x) aa;refine⟨?_,?_⟩
  ·rw[aO.add_get,au aa];exact C
  ·rw[g.get,au aa,au aa];exact P
 ·intro x d j;rcases A j with⟨rfl,rfl⟩|⟨_,k⟩
  ·exact a6
  ·exact ei (s.loc k) al
 ·intro x n q bo ar j f p;by_cases G:q=a
  ·subst G;rw[g.get,au g.t_,ay rfl]at p;cases p;by_cases z:x=H.next
   ·omega
   ·exact hD (Z (by rw[L z j];simp))
  ·have z:x≠H.next:=by
    intro e;rw[g.get,ay e]at j;cases j;exact G rfl
   exact s.mem (L z j) f (R G p)
 ·intro q bo ar p;by_cases G:q=a
  ·subst G;rw[g.get,au g.t_,ay rfl]at p;cases p;exact aR _
  ·exact s.lp (R G p)
 ·intro x d j f;rcases A f with⟨rfl,rfl⟩|⟨_,k⟩
  ·exact⟨aR _,ab⟩
  ·rw[j]at k;cases k
 ·intro x z _ ba;rw[g.get,au aa];split
  ·rename_i e;subst e;rcases g.old with h|⟨t,r,h⟩
   ·omega
   ·exact absurd h (ba _ _)
  ·rfl
theorem I8{r:V×ag}(h:l7 H a g b=some r):r.1=.slice H.next 0 g (.grown a)∧u5 H r.2 (H.next+1) b:=by
 cases h;refine⟨rfl,⟨fun x=>?_,by show H.next<H.next+1+1;omega,by show H.next+1<H.next+1+1;omega,aa,aa,.inl aa⟩⟩
 show((H.push (.cells b (H.next+1))).push (.b5 H.next H.next)).get x=_
 rw[ag.bE,ag.bE];have e:(H.push (.cells b (H.next+1))).next=H.next+1:=rfl
 rw[e];by_cases c:x=H.next
 ·subst c;simp
 ·by_cases d:x=H.next+1
  ·subst d;simp
  ·rw[au (fun e=>d e.symm),au (fun e=>c e.symm),au c,au d]
variable{z:Nat}
theorem aiY(o:Rel φ H w){r:V×ag}(h:qP H a g z b=some r):
 r.1=.slice H.next 0 z (.grown a)∧∃i c,H.get g=.cells i c∧u5 H r.2 c b:=by
 unfold qP at h;cases l:H.get g with
 |cells i c=>
  rw[l]at h
  have j:eg.casesOn (motive:=fun _=>Option (V×ag)) (H.get c) aW (fun _ _=>aW)
   (fun m _=>bq (and (bK m g) (!(fy c))) (some (.slice H.next 0 z (.grown a),(H.push (.cells b c)).set c (.b5 H.next H.next))))
   (fun _=>aW)=some r:=h
  clear h;have h:=j;clear j;cases d:H.get c with
  |b5 m p=>
   rw[d]at h;obtain⟨k,h⟩:=cS.1 h;cases h;rw[cz]at k;have n:c≠0:=by intro e;subst e;simp[fy]at k
   have q:c<H.next:=by
    rcases k4 c H.next with h2|h2
    ·exact h2
    ·rw[(o.top h2).2]at d;cases d
   refine⟨rfl,i,c,rfl,⟨fun x=>?_,by show H.next<H.next+1;omega,by show c<H.next+1;omega,n,aa,.inr ⟨_,_,d⟩⟩⟩
   show(((H.push (.cells b c)).set c (.b5 H.next H.next))).get x=_
   rw[ag.a_,ag.bE];by_cases f:x=H.next
   ·subst f;rw[au aa];simp
   ·by_cases h2:x=c
    ·subst h2;rw[ay rfl,au f,ay rfl]
    ·rw[au (fun e=>h2 e.symm),au (fun e=>f e.symm),au f,au h2]
  |_=>rw[d]at h;cases h
 |_=>rw[l]at h;cases h
end
section
variable {P:Program}{φ:aO}{H H':ag}{w w':World}
theorem Rel.drew(h:Rel φ H w)(k:Nat):Rel φ H { w with drawn:=w.drawn+k }:=⟨h.cell,h.room,h.len,h.inj,h.top,h.loc,h.mem,h.lp,fun a b=>let⟨c,d⟩:=h.cv a b;⟨c,d.mono (aO.le_refl φ) rfl⟩,fun e=>(h.fj e).keep rfl (h.fj e).off,h.lu⟩
variable{s:V}
theorem Bt(x:Rel φ H w){A:Value}(J:aS φ s A)(h:ec H a g s=some b):
 ∃z,bC φ b z∧∀k,(Builtin.firstCells a g A).run P { w with drawn:=w.drawn+k }=.ok ⟨z⟩ { w with drawn:=w.drawn+k }:=by
 cases J<;>first|(cases h;done)|skip
 ·rename_i K;obtain⟨_,h⟩:=cS.1 (show bq (bK a 1) _=some b from h);obtain⟨t,i,h⟩:=aD.1 (show av (cF K g) _=some b from h);cases h;rw[eR]at i;split at i
  ·cases i;refine⟨_,Mq _,fun k=>?_⟩;simp only[Builtin.firstCells,fC];congr 1;apply rI;simp[ByteArray.data_extract]
  ·cases i
 ·rename_i B o O L j l D M N;obtain⟨u,n,p,q⟩:=wk x D (show H.dw B o (g*a)=some b from h);refine⟨u,p,fun k=>?_⟩;exact yN n q
 ·obtain⟨_,h⟩:=cS.1 (show bq (fy g) (some [])=some b from h);cases h;exact⟨[],.nil,fun k=>rfl⟩
 ·rename_i e j;obtain⟨d,h⟩:=cS.1 (show bq (fy g) (some [])=some b from h);cases h;have r:g=0:=(beq_eq _ _).1 d;subst r;refine⟨[],.nil,fun k=>?_⟩;simp[Builtin.firstCells,loadCells,loadCellsFrom]
 ·rename_i e j _;have f:cF [] (g*a)=some b:=h;rw[eR]at f;split at f
  ·rename_i v;cases f;have d:g*a=0:=by simpa using v
   refine⟨[],by simpa using bC.nil,fun k=>?_⟩;cases e<;>simp[Builtin.firstCells,loadCells,loadCellsFrom,d]
  ·cases f
 ·rename_i m c o j C Q y F E I v;have G:cF (eA C 0) (g*a)=some b:=by rw[jT];exact h
  obtain⟨u,n,p,q⟩:=Kd x F E I G;refine⟨u,p,fun k=>?_⟩;exact yN n q
 ·rename_i e;obtain⟨d,h⟩:=cS.1 (show bq (fy g) (some [])=some b from h);cases h;have r:g=0:=(beq_eq _ _).1 d;subst r;refine⟨[],.nil,fun k=>?_⟩;cases e<;>simp[Builtin.firstCells,loadCells,loadCellsFrom]
theorem BN{b:Value}(c:aS φ s b)(h:j_ s=some a):(Builtin.lenOf b).run P w=.ok a w:=by
 cases c<;>first|(cases h;done)|skip
 ·rename_i d;cases h;show Result.ok _ w=_;rw[gx];rfl
 all_goals(cases h;rfl)
theorem IU(h:ju a g=true):a≤1099511627776∧a*g≤1099511627776:=by
 unfold ju at h;rw[cz,eN,eN]at h;exact h
theorem IJ(f:Rel φ H w)(s:u5 H H' a b){rest:List Value}(o:bC φ b D){e:TypeId}:
 Ext φ H w (φ.add H.next ⟨w.heap.size,0,D.length+rest.length⟩) H' (w.drew.alloc (.cells ⟨D++rest⟩ e)):=by
 have p:∀ {c i:Nat},c<w.heap.size→(w.drew.alloc (.cells ⟨D++rest⟩ e)).cell? ⟨c,i,none⟩=w.cell? ⟨c,i,none⟩:=by
  intro c i h;exact World.cell?_alloc_past (w:=w.drew) _ c i h
 have n:∀i,(w.drew.alloc (.cells ⟨D++rest⟩ e)).cell? ⟨w.heap.size,0+i,none⟩=(D++rest)[i]? :=by
  intro i;have:=World.cell?_alloc_at (w:=w.drew) (⟨D++rest⟩:Array Value) e w.heap.size (0+i) rfl;rw[this];simp
 have j:∀ {c:Nat},c<w.heap.size→(w.drew.alloc (.cells ⟨D++rest⟩ e)).heap[c]? =w.heap[c]? :=by
  intro c h;show(w.heap.push _)[c]? =_;simp[uY,Nat.ne_of_lt h]
 have u:∀ {c i:Nat},c<w.heap.size→(w.drew.alloc (.cells ⟨D++rest⟩ e)).frozen? ⟨c,i,none⟩=w.frozen? ⟨c,i,none⟩:=by
  intro c i h;unfold World.frozen?;rw[j h]
 refine Zb f s ?_ ?_ ?_ ?_ ?_ ?_ ?_ ?_ ?_ ?_ (.inl (aR _)) (fun d _=>j (f.loc d)) (fun d _=>j (f.loc d))
 ·intro x q B C i d _ _;exact p (f.loc d)
 ·intro x q i d k;obtain⟨g,l⟩:=f.room d k;rw[p (f.loc d),u (f.loc d)];exact⟨g,l⟩
 ·intro i v y;obtain⟨A,g,l⟩:=o.get i v y;refine⟨A,?_,l⟩;rw[n,k3 (fo.1 g).1];exact g
 ·intro i m;have E:i<(D++rest).length:=by simpa using m
  refine⟨⟨(D++rest)[i],by rw[n];simp⟩,?_⟩;show(match(w.heap.push (.cells ⟨D++rest⟩ e (0,0)))[w.heap.size]? with|some (.cells _ _ (z,m))=>decide (z≤0+i)&&decide (0+i<m)|_=>false)=false;simp
 ·have:=o.length;show b.length≤D.length+rest.length;omega
 ·intro x q d k;have:=f.loc d;simp at k;omega
 ·show w.heap.size<(w.heap.push _).size;simp
 ·show w.heap.size≤(w.heap.push _).size;simp
 ·intro c h _;exact j h
 ·exact⟨rfl,rfl,rfl,fun h=>(gW.alloc w.drew _).free h,fun c b t r h=>(gW.alloc w.drew _).shape c b t r h⟩
variable{z:Nat}{I:Nat}
theorem aht(t:Rel φ H w){y:List V}(ha:u5 H H' a (b++y))(o:φ g=some Q){L:List V}(G:H.get g=.cells L a){f:List Value}
 (O:bC φ b D) (a5:D.length=I) (am:∀j v,D[j]? =some v→w.cell? ⟨Q.c,Q.base+z+j,none⟩=some v) (K:bC φ y f) (Z:de y=true) (a3:z+I+y.length≤Q.ji):
 (storeCells ⟨Q.c,Q.base+z+I,none⟩ f).run P w=.ok () (w.setCells Q.c (Q.base+z+I) f)∧
 Ext φ H w (φ.add H.next ⟨Q.c,Q.base+z,Q.ji-z⟩) H' (w.setCells Q.c (Q.base+z+I) f):=by
 have a4:=K.length;have T:∀j,j<f.length→(w.cell? ⟨Q.c,Q.base+z+I+j,none⟩).isSome=true:=fun j s=>by
  obtain⟨⟨u,p⟩,_⟩:=t.room o (i:=z+I+j) aa;have:Q.base+(z+I+j)=Q.base+z+I+j:=aa;rw[this]at p;rw[p];rfl
 have ae:∀j,j<f.length→w.frozen? ⟨Q.c,Q.base+z+I+j,none⟩=false:=fun j s=>by
  obtain⟨_,p⟩:=t.room o (i:=z+I+j) aa;have:Q.base+(z+I+j)=Q.base+z+I+j:=aa;rw[this]at p;exact p
 have S:=run_storeCells_cells (P:=P) Q.c (Q.base+z+I) f 0 w (by simpa using T) (by simpa using ae) (Lx K Z);rw[cO]at S;have N:=World.cell?_setCells_in Q.c f (Q.base+z+I) w T;have R:∀ {x:Nat}{d:Loc}{i:Nat},φ x=some d→i<d.ji→(∃q,(w.setCells Q.c (Q.base+z+I) f).cell? ⟨d.c,d.base+i,none⟩=some q)∧(w.setCells Q.c (Q.base+z+I) f).frozen? ⟨d.c,d.base+i,none⟩=false:=by
  intro x d i k l;obtain⟨⟨u,p⟩,hf⟩:=t.room k l;refine⟨?_,by rw[World.frozen?_setCells];exact hf⟩;by_cases r:d.c=Q.c∧Q.base+z+I≤d.base+i∧d.base+i<Q.base+z+I+f.length
  ·have s:d.base+i-(Q.base+z+I)<f.length:=aa;have:=N _ s;have F:Q.base+z+I+(d.base+i-(Q.base+z+I))=d.base+i:=aa;rw[F]at this;rw[r.1];exact⟨_,this⟩
  ·refine⟨u,?_⟩;rw[World.cell?_setCells_out _ _ _ _ _ (fun e _=>by simp at e⊢;omega)];exact p
 have C:∀ {x:Nat}{d:Loc},φ x=some d→d.c=Q.c→∃A,H.get x=.cells A a:=by
  intro x d k l;by_cases U:x=g
  ·subst U;exact⟨L,G⟩
  ·obtain⟨W,a2,gg,B,h4,M⟩:=(t.inj k o l U).resolve_right (fun n=>by rw[G]at n;cases n.2);rw[G]at M;cases M;exact⟨W,h4⟩
 have a6:=O.length;refine⟨S,Zb t ha ?_ R ?_ ?_ ?_ C ?_ ?_ ?_ (Kl _ _ _ _) (.inr ⟨g,Q,o,rfl⟩) (fun k l=>r7 _ _ (fun r=>by obtain⟨A,h⟩:=C k r.symm;rw[l]at h;cases h) _ _ _) (fun k l=>r7 _ _ (fun r=>by obtain⟨A,h⟩:=C k r.symm;rw[l]at h;cases h) _ _ _)⟩
 ·intro x d A g1 i k l Y;rw[World.cell?_setCells_out _ _ _ _ _ (fun e _=>?_)];obtain⟨c2,m⟩:=C k e;rw[l]at m;cases m;exact absurd rfl Y
 ·intro i v E;by_cases J:i<b.length
  ·rw[k3 J]at E;obtain⟨q,m,B⟩:=O.get i v E;refine⟨q,?_,B⟩;rw[World.cell?_setCells_out _ _ _ _ _ (fun _ _=>by simp;omega)];exact am i q m
  ·rw[pI aa]at E;obtain⟨q,m,B⟩:=K.get _ v E;refine⟨q,?_,B⟩;have s:=(fo.1 m).1;have:=N _ s;have F:Q.base+z+I+(i-b.length)=Q.base+z+i:=aa;rw[F]at this;show(w.setCells Q.c (Q.base+z+I) f).cell? ⟨Q.c,Q.base+z+i,none⟩=some q;rw[this,←m];simp[s]
 ·intro i J;have a1:i<Q.ji-z:=J;have:=R o (i:=z+i) aa;rw[←jq]at this;exact this
 ·show(b++y).length≤Q.ji-z;simp;omega
 ·show Q.c<_;rw[yP];exact t.loc o
 ·rw[yP];exact aR _
 ·intro X r al;exact r7 Q.c X (al g Q o) _ _ w
end
def rK(P:Program)(φ:aO)(H:ag)(w:World)(ρ:Operand→Value)(o:Oper)(v:V)(H':ag):Prop:=
 ∃a b w' c,(execOp ρ o).run P w=.ok a w'∧(a=.value b∨(a=.skip∧b=undef))∧Ext φ H w c H' w'∧aS c v b
section
variable {P:Program}{φ:aO}{H H':ag}{w w':World}{ρ:Operand→Value}{T:cE}{N:eF}{F:Fr}{dst:Option Tmp}{ty:TypeId}{pos:String}{after:Array Edge}{guard:Option (Nat×Bool)}
variable{s:V}
theorem aqO(hT:c4 P T)(u:Rel φ H w)(t:iw T e=some a){y:Operand}{v:V}(d:aS φ s (ρ k))(g:aS φ v (ρ y)){r:V×ag}(h:qm a [s,v] H=some r):
 rK P φ H w ρ ⟨dst,.store e k y,ty,pos,after,guard⟩ r.1 r.2:=by
 generalize z:ρ k=D at d
 generalize A:ρ y=B at g
 cases d<;>first|(cases h;done)|skip
 rename_i b o l n;obtain⟨c,h⟩:=cS.1 (show bq (and (bP v) (bK (cP (cellsOf v)) a)) (av (H.e5 b o (cellsOf v)) fun H=>some (V.undef,H))=some r from h);obtain⟨C,m,h⟩:=aD.1 h;cases h;rw[cz,beq_eq,gx]at c;obtain⟨p,c⟩:=c;have f:=A5 g p;obtain⟨i,j⟩:=CG (P:=P) u n f m;have q:=f.length;refine⟨.skip,undef,_,φ,?_,.inr ⟨rfl,rfl⟩,j,.aK .nil⟩;have x:B.cells.size=a:=by simp at q;omega
 simp only[execOp,Instr.storeAt,z,A,u6,storeVar];simp[kV hT t,x,i]
theorem aef(a:Rel φ H w){v:V}(b:aS φ v (ρ k)):rK P φ H w ρ ⟨dst,.assign k,ty,pos,after,guard⟩ v H:=
 ⟨.value (ρ k),ρ k,w,φ,by simp[execOp],.inl rfl,Ext.refl a,b⟩
theorem Zw(h:ec H a 0 s=some b):b=[]:=by
 cases s<;>first|(cases h;done)|skip
 ·rename_i i;obtain⟨_,h⟩:=cS.1 (show bq (bK a 1) _=some b from h);obtain⟨t,f,h⟩:=aD.1 (show av (cF i 0) _=some b from h);cases h;rw[eR]at f;simp at f;subst f;rfl
 ·rename_i g o l j;obtain⟨c,k,h⟩:=aD.1 (show av (H.cells? g) (fun c=>cF (eA c o) (dW 0 a))=some b from h);have e:dW 0 a=0:=jE a;rw[e,eR]at h;simp at h;exact h
 ·obtain⟨_,h⟩:=cS.1 (show bq (fy 0) (some [])=some b from h);cases h;rfl
 ·obtain⟨_,h⟩:=cS.1 (show bq (fy 0) (some [])=some b from h);cases h;rfl
 ·rename_i m c;have d:cF c (dW 0 a)=some b:=h;have e:dW 0 a=0:=jE a;rw[e,eR]at d;simp at d;exact d
 ·obtain⟨_,h⟩:=cS.1 (show bq (fy 0) (some [])=some b from h);cases h;rfl
theorem ahS(h:ec H a g s=some b):b.length=g*a:=by
 cases s<;>first|(cases h;done)|skip
 ·rename_i k;obtain⟨c,h⟩:=cS.1 (show bq (bK a 1) _=some b from h);obtain⟨t,f,h⟩:=aD.1 (show av (cF k g) _=some b from h);cases h;rw[beq_eq]at c;subst c;rw[eR]at f;split at f
  ·cases f;rw[am3];simp;omega
  ·cases f
 ·rename_i j o p l;obtain⟨d,n,h⟩:=aD.1 (show av (H.cells? j) (fun d=>cF (eA d o) (dW g a))=some b from h);rw[eR]at h;split at h
  ·rename_i i;cases h;rw[ep];exact oH i
  ·cases h
 ·obtain⟨c,h⟩:=cS.1 (show bq (fy g) (some [])=some b from h);cases h;have:g=0:=(beq_eq _ _).1 c;subst this;simp
 ·obtain⟨c,h⟩:=cS.1 (show bq (fy g) (some [])=some b from h);cases h;have:g=0:=(beq_eq _ _).1 c;subst this;simp
 ·rename_i m d;have e:cF d (dW g a)=some b:=h;rw[eR]at e;split at e
  ·rename_i i;cases e;rw[ep];exact oH i
  ·cases e
 ·obtain⟨c,h⟩:=cS.1 (show bq (fy g) (some [])=some b from h);cases h;have:g=0:=(beq_eq _ _).1 c;subst this;simp
variable{u:Array TypeId}
theorem Dw{st:TypeId}(o:P.underlying st=some (.slice e)){i:TypeInfo}(m:P.info? e=some i){b ty:TypeId}(p:P.underlying b=some E)(q:∀k,E≠ .int k)
 (f:u[0]? =some st) (g:u[1]? =some b) {x:Value} (h:Fits P w i.size 0 x D):
 (Builtin.append_ u ty #[.slice none 0 0,x]).run P w=.ok (.slice none 0 0) w:=by
 obtain⟨j,l⟩:=h;have a:=l 0;simp only[cO]at a;unfold Builtin.append_;have c:(#[Value.slice none 0 0,x]:Array Value)[0]? =some (.slice none 0 0):=rfl;have d:(#[Value.slice none 0 0,x]:Array Value)[1]? =some x:=rfl;have n:(sizeOf e).run P w=.ok i.size w:=by simp[sizeOf,o_ m]
 simp only[f,g,c,d,c8,run_underlying o,dS,n,run_underlying p,fC,kj,if_false,j,cO,aR,gS,if_true,a]
theorem aeb(hT:c4 P T)(j:Rel φ H w){st xt:TypeId}{i:TypeInfo}(hu:T.bQ st=some (.slice e))(hi:T.info e=some i)(hz:zeroCells T e=some b)(du:b.length=i.size)
 (G:P.underlying xt=some E) (C:∀M,E≠ .int M) (v:u[0]? =some st) (A:u[1]? =some xt) {x:Operand}{y:V} (hs:aS φ s (ρ k)) (hy:aS φ y (ρ x)) {r:V×ag} (h:ga i.size i.bytes [s,y] H=some r):
 rK P φ H w ρ ⟨dst,.call ⟨.builtin .append,#[k,x],u⟩,ty,pos,after,guard⟩ r.1 r.2:=by
 obtain⟨n,hn,bd⟩:=aD.1 (show av (j_ y) _=some r from h);obtain⟨a9,a2,be⟩:=aD.1 bd;clear h bd;have h:=be;clear be;obtain⟨a',R,da⟩:=Bt (P:=P) j hy a2;have c1:=BN (P:=P) (w:=w) hy hn;have B:Fits P w i.size n (ρ x) a':=⟨c1,da⟩;obtain⟨d,z,q,a6,dp⟩:=xe hT hz;have cs:d=i:=by have:=hT.info e i hi;rw[q]at this;exact Option.some.inj this
 subst cs;have a8:z.cells.size=d.size:=by have:=(dp φ).length;simp at this;omega
 have D:∀ {aw yv:Value}{v':Value}{w':World},ρ k=aw→ρ x=yv→(Builtin.append_ u ty #[aw,yv]).run P w=.ok v' w'→
  (execOp ρ ⟨dst,.call ⟨.builtin .append,#[k,x],u⟩,ty,pos,after,guard⟩).run P w=.ok (.value v') w':=by
  intro aw yv v' w' J K N;simp only[execOp,resolve,invoke,builtin];simp[J,K,N]
 have F:=hT.bQ hu;generalize t:ρ k=aw at hs
 unfold kL at h;by_cases bs:n=0
 ·subst bs;have a7:fy 0=true:=rfl;rw[a7]at h;have db:a9=[]:=Zw a2;subst db;cases R;cases hs<;>first|(cases h;done)|skip
  ·rename_i l O bo Y;cases h;exact⟨_,_,_,φ,D t rfl (rX F q G C v A B aa rfl),.inl rfl,Ext.refl j,.slice O bo Y⟩
  ·cases h;exact⟨_,_,_,φ,D t rfl (Dw F q G C v A B),.inl rfl,Ext.refl j,.ak⟩
  ·cases h;exact⟨_,_,_,φ,D t rfl (rX F q G C v A B aa rfl),.inl rfl,Ext.refl j,.emp _ _⟩
  ·rename_i a p bi;cases h;cases a with
   |none=>
    rw[bi rfl]at t;exact⟨_,_,_,φ,D t rfl (Dw F q G C v A B),.inl rfl,Ext.refl j,.e4 _ _ (fun _=>rfl)⟩
   |some a=>exact⟨_,_,_,φ,D t rfl (rX F q G C v A B aa rfl),.inl rfl,Ext.refl j,.e4 _ _ bi⟩
  ·rename_i m X o p ds vs y cp Q hv I;cases h;exact⟨_,_,_,φ,D t rfl (rX F q G C v A B aa rfl),.inl rfl,Ext.refl j,.row cp Q hv I⟩
  ·rename_i a;cases h;cases a with
   |none=>exact⟨_,_,_,φ,D t rfl (Dw F q G C v A B),.inl rfl,Ext.refl j,.gu _⟩
   |some a=>exact⟨_,_,_,φ,D t rfl (rX F q G C v A B aa rfl),.inl rfl,Ext.refl j,.gu _⟩
 ·have a7:fy n=false:=mB.2 (fun e=>bs ((beq_eq _ _).1 e));rw[a7]at h;have a3:a'.length=n*d.size:=by rw[←R.length];exact ahS a2
  cases hs<;>first|(cases h;done)|skip
  ·rename_i b1 o f b2 p l O bo Y;obtain⟨ae,h⟩:=cS.1 h;obtain⟨a1,ad⟩:=IU ae
   have bj:∀ {am:List V},H.dw b1 o (f*d.size)=some am→p<f+n→∀ {g:Nat}{H2:ag},u5 H H2 g (am++a9)→
    rK P φ H w ρ ⟨dst,.call ⟨.builtin .append,#[k,x],u⟩,ty,pos,after,guard⟩ (.slice H.next 0 (f+n) (.grown d.size)) H2:=by
    intro am Z ci g H2 hA;obtain⟨ba,J,K,N⟩:=wk j O Z
    obtain⟨X,Q,ap,U,W⟩:=Dv (P:=P) (w:=w) (ty:=ty) F q a6 a8 G C v A (a:=some ⟨l.c,l.base+o,none⟩) (len:=f) (cap:=p) (old:=ba) B ci
     (fun M=>yN (w:= { w with drawn:=w.drawn+M }) J N) a1 ad
    have ac:=IJ (w:=w) j hA (rest:=ap) (K.append R) (e:=e);refine⟨_,_,_,_,D t rfl W,.inl rfl,ac,.slice (aO.rV _ _ _) Q ?_⟩;show 0+X*d.size≤_;have a0:(ba++a').length=(f+n)*d.size:=by
     rw[bt,J,a3,cZ]
    rw[a0,U,←cZ,fB];exact dz _ aa
   cases b2 with
   |known M=>
    have hk:p=M:=Y;subst hk;by_cases I:f+n≤p
    ·have e:b8 (fW f n) p=true:=(eN _ _).2 I;simp only[e]at h;obtain⟨H2,a5,h⟩:=aD.1 h;cases h;obtain⟨J,K⟩:=CG (P:=P) j O R a5;have N:l.base+(fW o (dW f d.size))=l.base+o+f*d.size:=by
      show l.base+(o+f*d.size)=_;omega
     rw[N]at J K;exact⟨_,_,_,φ,D t rfl (rX F q G C v A B I (by rw[k7];exact J)),.inl rfl,K,.slice O I rfl⟩
    ·have e:b8 (fW f n) p=false:=mB.2 (fun h=>I ((eN _ _).1 h));simp only[e]at h;obtain⟨am,Z,h⟩:=aD.1 h;obtain⟨S,L⟩:=I8 h;rw[S];rw[iV]at L;exact bj Z aa L
   |grown sz=>
    obtain⟨ar,hB⟩:=cS.1 h;clear h;rw[cz,beq_eq]at ar;obtain⟨ar,dd⟩:=ar;subst ar;obtain⟨am,Z,cf⟩:=aD.1 hB;obtain⟨S,dq,g,hg,L⟩:=aiY j cf;rw[S];rw[iV]at L;by_cases I:f+n≤p
    ·obtain⟨ba,J,K,N⟩:=wk j O Z;have c2:o+f*d.size+a9.length≤l.ji:=by
      have h5:o+p*d.size≤l.ji:=Y;have h6:=R.length;have h7:(f+n)*d.size≤p*d.size:=dz _ I;rw[cZ]at h7;omega
     obtain⟨b',a0⟩:=aht (P:=P) j L O hg K J N R dd c2;refine⟨_,_,_,_,D t rfl (rX F q G C v A B I (by rw[k7];exact b')),.inl rfl,a0,?_⟩;have:=aS.slice (φ:=φ.add H.next ⟨l.c,l.base+o,l.ji-o⟩) (b:=H.next) (o:=0) (len:=f+n) (cap:=.grown d.size) (cap':=p) (aO.rV _ _ _) I (by
      show 0+p*d.size≤l.ji-o;have h5:o+p*d.size≤l.ji:=Y;omega)
     exact this
    ·exact bj Z aa L
   |mg=>cases h
   |least M=>
    have hk:M≤p:=Y;obtain⟨c0,h⟩:=cS.1 h;have I:f+n≤M:=(eN _ _).1 c0;obtain⟨H2,a5,h⟩:=aD.1 h;cases h;obtain⟨J,K⟩:=CG (P:=P) j O R a5;have N:l.base+(fW o (dW f d.size))=l.base+o+f*d.size:=by
     show l.base+(o+f*d.size)=_;omega
    rw[N]at J K;exact⟨_,_,_,φ,D t rfl (rX F q G C v A B (cI I hk) (by rw[k7];exact J)),.inl rfl,K,.slice O (cI I hk) hk⟩
  ·obtain⟨ae,h⟩:=cS.1 h;obtain⟨a1,ad⟩:=IU ae;obtain⟨S,L⟩:=I8 h;rw[S];obtain⟨X,Q,ap,U,W⟩:=Dv (P:=P) (w:=w) (ty:=ty) F q a6 a8 G C v A (a:=none) (len:=0) (cap:=0) (old:=[]) B aa (fun M=>rfl) aa (by rw[fB];exact ad);simp only[fB]at W Q U;have ac:=IJ (w:=w) j L (rest:=ap) R (e:=e);refine⟨_,_,_,_,D t rfl W,.inl rfl,ac,.slice (aO.rV _ _ _) Q ?_⟩;show 0+X*d.size≤_;rw[a3,U,←cZ,fB];exact dz _ aa
  ·rename_i a;obtain⟨ae,h⟩:=cS.1 h;obtain⟨a1,ad⟩:=IU ae;obtain⟨S,L⟩:=I8 h;rw[S];obtain⟨X,Q,ap,U,W⟩:=Dv (P:=P) (w:=w) (ty:=ty) F q a6 a8 G C v A (a:=a) (len:=0) (cap:=0) (old:=[]) B aa (fun M=>by cases a<;>simp[Builtin.firstCells,loadCells,loadCellsFrom]) aa (by rw[fB];exact ad);simp only[fB]at W Q U;have ac:=IJ (w:=w) j L (rest:=ap) R (e:=e);refine⟨_,_,_,_,D t rfl W,.inl rfl,ac,.slice (aO.rV _ _ _) Q ?_⟩;show 0+X*d.size≤_;rw[a3,U,←cZ,fB];exact dz _ aa
end
section
variable {P:Program}{φ:aO}{H H':ag}{w w':World}{ρ:Operand→Value}{T:cE}{N:eF}{F:Fr}{dst:Option Tmp}{ty:TypeId}{pos:String}{after:Array Edge}{guard:Option (Nat×Bool)}
def jz(w:World)(c:Nat)(o:Obj):World:= { w with heap:=w.heap.setIfInBounds c o }
theorem mm(h:a≠g)(o:Obj):(jz w a o).heap[g]? =w.heap[g]? :=by
 show(w.heap.setIfInBounds a o)[g]? =_;rw[Array.getElem?_setIfInBounds_ne h]
theorem JY(h:a<w.heap.size)(o:Obj):(jz w a o).heap[a]? =some o:=by
 show(w.heap.setIfInBounds a o)[a]? =_;simp[h]
theorem Ki{o o':Obj}(h:w.heap[a]? =some o)(b:Jd o=false):(setObj a o').run P w=.ok () (jz w a o'):=by
 cases o<;>first|(cases b;done)|simp[setObj,Sem.run,h,jz]
theorem Kk{o:Obj}(h:w.heap[a]? =some o)(g:Jd o=false)(j:∀d e,o≠ .pending d e)(x:Obj):gW w (jz w a x):=⟨rfl,rfl,rfl,fun{c i} b=>by
 by_cases e:a=c
 ·subst e;obtain⟨⟨v,f⟩,_⟩:=b;unfold World.cell? at f;rw[h]at f;cases o<;>first|(cases g;done)|(exact absurd rfl (j _ _))|(simp at f;done)
 ·exact pG.of_heap (mm e x) b,fun c d t k b=>by
 by_cases e:a=c
 ·subst e;rw[h]at b;cases b;cases g
 ·exact⟨d,(mm e x).trans b,rfl⟩⟩
theorem II(l:Rel φ H w)(t:φ a=some Q){o o':nj}(q:H.get a=.cv o){x:Obj}(hx:sH φ (jz w Q.c x) Q.c o')(K:∀y,o≠ .ro y:=by intro _ h;cases h):Ext φ H w φ (H.set a (.cv o')) (jz w Q.c x):=by
 have T:(jz w Q.c x).heap.size=w.heap.size:=by simp[jz]
 have F:∀ {b:Nat}{r:Loc},φ b=some r→b≠a→r.c≠Q.c:=by
  intro b r f j s;obtain⟨_,_,_,_,_,I⟩:=(l.inj f t s j).resolve_right (fun n=>by rw[q]at n;cases n.2);rw[q]at I;cases I
 have L:∀ {b:Nat}{C:List V}{g:Nat},(H.set a (.cv o')).get b=.cells C g→b≠a∧H.get b=.cells C g:=by
  intro b C g h;rw[ag.a_]at h;split at h
  ·cases h
  ·rename_i e;exact⟨fun u=>e u.symm,h⟩
 have M:∀ {b A k:Nat},(H.set a (.cv o')).get b=.b5 A k→H.get b=.b5 A k:=by
  intro b A k h;rw[ag.a_]at h;split at h
  ·cases h
  ·exact h
 have ac:∀ {b g:Nat},(H.set a (.cv o')).gh b g=true→H.gh b g=true:=by
  intro b g h;rcases gi.1 h with e|⟨A,k,e,u⟩
  ·exact gi.2 (.inl e)
  ·exact gi.2 (.inr ⟨A,k,M e,u⟩)
 have S:∀ {k i:Nat},k≠Q.c→(jz w Q.c x).cell? ⟨k,i,none⟩=w.cell? ⟨k,i,none⟩:=by
  intro k i h;unfold World.cell?;rw[mm (fun e=>h e.symm)]
 have Z:∀ {k i:Nat},k≠Q.c→(jz w Q.c x).frozen? ⟨k,i,none⟩=w.frozen? ⟨k,i,none⟩:=by
  intro k i h;unfold World.frozen?;rw[mm (fun e=>h e.symm)]
 have ae:gW w (jz w Q.c x):=by
  have G:=(l.cv t q).2;cases o with
  |map W=>obtain⟨X,p,_⟩:=G;exact Kk p rfl aJ x
  |iter m A a k d=>obtain⟨lm,_,_,p,_⟩:=G;exact Kk p rfl aJ x
  |ro y=>exact absurd rfl (K y)
 have ad:∀i,¬i<Q.ji:=by
  intro i hi;obtain⟨⟨v,N⟩,_⟩:=l.room t hi;have G:=(l.cv t q).2;unfold World.cell? at N;cases o with
  |map W=>obtain⟨X,p,_⟩:=G;simp[p]at N
  |iter m A a k d=>obtain⟨lm,_,_,p,_⟩:=G;simp[p]at N
  |ro y=>exact absurd rfl (K y)
 refine⟨⟨?_,?_,?_,?_,?_,?_,?_,?_,?_,fun e=>(l.fj e).keep (mm (fun R=>(l.fj e).r6 t (by rw[q];simp) R) x) (fun b r f j=>by
  have s:=(l.fj e).off b r f j;rw[ag.a_,au (fun D=>by rw[←D,q]at s;cases s)];exact s),fun{a4 a0 a1} e=>by
  rw[ag.a_]at e;split at e
  ·cases e
  ·exact l.lu e⟩,aO.le_refl φ,fun f j=>absurd (f.symm.trans j) aJ,?_,aR _,?_,by rw[T];exact aR _,ae,fun{b r} f j=>⟨by rw[ag.a_,au (fun e=>by rw[←e,q]at j;cases j)];exact j,mm (fun e=>F f (fun u=>by rw[u,q]at j;cases j) e.symm) x⟩,fun _ _ e=>.inl e⟩
 ·intro b r C g i v f j s D;obtain⟨B,E⟩:=L j;obtain⟨v',p,z⟩:=l.cell f E (ac s) D;exact⟨v',by rw[S (F f B)];exact p,z⟩
 ·intro b r i f j;by_cases e:b=a
  ·subst e;rw[t]at f;cases f;exact absurd j (ad i)
  ·rw[S (F f e),Z (F f e)];exact l.room f j
 ·intro b r C g f j;exact l.len f (L j).2
 ·intro b b2 r l2 f j s D;rcases l.inj f j s D with⟨U,I,g,p,z,J⟩|⟨O,P⟩
  ·refine .inl ⟨U,I,g,p,?_,?_⟩
   ·rw[ag.a_,au (by intro e;rw[←e,q]at z;cases z)];exact z
   ·rw[ag.a_,au (by intro e;rw[←e,q]at J;cases J)];exact J
  ·refine .inr ⟨?_,?_⟩
   ·rw[ag.a_,au (by intro e;rw[←e,q]at O;cases O)];exact O
   ·rw[ag.a_,au (by intro e;rw[←e,q]at P;cases P)];exact P
 ·intro b p;obtain⟨B,E⟩:=l.top (b:=b) p;refine⟨B,?_⟩;rw[ag.a_,au (by intro e;rw[←e,t]at B;cases B)];exact E
 ·intro b r f;rw[T];exact l.loc f
 ·intro b C g am Y f j s;exact l.mem (L f).2 j (M s)
 ·intro g am Y f;exact l.lp (M f)
 ·intro b r o1 f j;by_cases e:b=a
  ·subst e;rw[t]at f;cases f;rw[ag.a_,ay rfl]at j;cases j;exact⟨(l.cv t q).1,hx⟩
  ·rw[ag.a_,au (fun u=>e u.symm)]at j;obtain⟨B,E⟩:=l.cv f j;exact⟨B,E.mono (aO.le_refl φ) (mm (fun u=>F f e u.symm) x)⟩
 ·intro b p z J;rw[ag.a_,au (by intro e;rw[←e,t]at z;cases z)]
 ·intro k R K;exact mm (fun e=>K a Q t e) x
theorem Zd(k:Rel φ H w){o:nj}{x:Obj}(Y:sH (φ.add H.next ⟨w.heap.size,0,0⟩) (w.alloc x) w.heap.size o):
 Ext φ H w (φ.add H.next ⟨w.heap.size,0,0⟩) (H.push (.cv o)) (w.alloc x):=by
 have K:φ H.next=none:=(k.top (aR _)).1
 have F:=aO.um (l:=⟨w.heap.size,0,0⟩) K;have X:(w.alloc x).heap.size=w.heap.size+1:=by show(w.heap.push x).size=_;simp
 have s:∀ {y:Nat}{l:Loc},φ.add H.next ⟨w.heap.size,0,0⟩ y=some l→(y=H.next∧l=⟨w.heap.size,0,0⟩)∨(y≠H.next∧φ y=some l):=by
  intro y l B;rw[aO.add_get]at B;split at B
  ·cases B;exact .inl ⟨by assumption,rfl⟩
  ·exact .inr ⟨by assumption,B⟩
 have u:∀ {c:Nat},c<w.heap.size→(w.alloc x).heap[c]? =w.heap[c]? :=by
  intro c h;show(w.heap.push x)[c]? =_;simp[uY,Nat.ne_of_lt h]
 have J:∀ {c i:Nat},c<w.heap.size→(w.alloc x).cell? ⟨c,i,none⟩=w.cell? ⟨c,i,none⟩:=by
  intro c i h;unfold World.cell?;rw[u h]
 have S:∀ {c i:Nat},c<w.heap.size→(w.alloc x).frozen? ⟨c,i,none⟩=w.frozen? ⟨c,i,none⟩:=by
  intro c i h;unfold World.frozen?;rw[u h]
 have C:∀ {b:Nat}{p:List V}{g:Nat},(H.push (.cv o)).get b=.cells p g→H.get b=.cells p g:=by
  intro b p g h;rw[ag.bE]at h;split at h
  ·cases h
  ·exact h
 have D:∀ {b a c:Nat},(H.push (.cv o)).get b=.b5 a c→H.get b=.b5 a c:=by
  intro b a c h;rw[ag.bE]at h;split at h
  ·cases h
  ·exact h
 have U:∀ {b g:Nat},(H.push (.cv o)).gh b g=true→H.gh b g=true:=by
  intro b g h;rcases gi.1 h with e|⟨a,c,e,M⟩
  ·exact gi.2 (.inl e)
  ·exact gi.2 (.inr ⟨a,c,D e,M⟩)
 have L:∀ {b:Nat}{n:Loc}{p:List V}{g:Nat},φ.add H.next ⟨w.heap.size,0,0⟩ b=some n→(H.push (.cv o)).get b=.cells p g→φ b=some n:=by
  intro b n p g j d;rcases s j with⟨rfl,rfl⟩|⟨_,f⟩
  ·rw[ag.bE,ay rfl]at d;cases d
  ·exact f
 have T:∀ {c:Nat}{y:Obj},φ.im c=some y→ox (φ.add H.next ⟨w.heap.size,0,0⟩) (H.push (.cv o)) (w.alloc x) c y:=by
  intro c y e;have E:=k.fj e;have W:=E.lt;refine E.keep (u W) ?_;intro b n j d;rcases s j with⟨_,rfl⟩|⟨m,r⟩
  ·have:w.heap.size=c:=d;omega
  ·rw[ag.bE,au (fun e=>m e.symm)];exact E.off _ _ r d
 refine⟨⟨?_,?_,?_,?_,?_,?_,?_,?_,?_,T,fun{am ad Q} e=>by
  show Q<H.next+1
  rw[ag.bE]at e;split at e
  ·cases e
  ·have:=k.lu e;omega⟩,F,?_,?_,by show H.next≤H.next+1;omega,?_,aa,gW.alloc w x,fun{b n} j d=>⟨by rw[ag.bE,au (fun e=>by rw[←e,K]at j;cases j)];exact d,u (k.loc j)⟩,fun _ _ e=>.inl e⟩
 ·intro b n p g i v j d q A;have r:=L j d;obtain⟨v',m,t⟩:=k.cell r (C d) (U q) A;exact⟨v',by rw[J (k.loc r)];exact m,t.mono F⟩
 ·intro b n i j d;rcases s j with⟨rfl,rfl⟩|⟨_,f⟩
  ·exact absurd d (pN _)
  ·rw[J (k.loc f),S (k.loc f)];exact k.room f d
 ·intro b n p g j d;exact k.len (L j d) (C d)
 ·intro b b2 n l2 j d q A;rcases s j with⟨m,G⟩|⟨m,r⟩
  ·rcases s d with⟨t,I⟩|⟨t,z⟩
   ·exact absurd (m.trans t.symm) A
   ·have:=k.loc z;rw[G]at q;simp at q;omega
  ·rcases s d with⟨t,I⟩|⟨t,z⟩
   ·have:=k.loc r;rw[I]at q;simp at q;omega
   ·rw[ag.bE,au (fun e=>m e.symm),ag.bE,au (fun e=>t e.symm)];exact k.inj r z q A
 ·intro b m;have G:H.next+1≤b:=m
  obtain⟨r,z⟩:=k.top (b:=b) aa;refine⟨?_,?_⟩
  ·rw[aO.add_get,au aa];exact r
  ·rw[ag.bE,au aa];exact z
 ·intro b n j;rw[X];rcases s j with⟨rfl,rfl⟩|⟨_,f⟩
  ·simp
  ·have:=k.loc f;omega
 ·intro b p g Z N j d q;exact k.mem (C j) d (D q)
 ·intro g Z N j;exact k.lp (D j)
 ·intro b n o1 j d;rcases s j with⟨rfl,rfl⟩|⟨m,f⟩
  ·rw[ag.bE,ay rfl]at d;cases d;exact⟨rfl,Y⟩
  ·rw[ag.bE,au (fun e=>m e.symm)]at d;obtain⟨O,P⟩:=k.cv f d;exact⟨O,P.mono F (u (k.loc f))⟩
 ·intro b n j d;rcases s d with⟨rfl,rfl⟩|⟨_,f⟩
  ·exact⟨aR _,.inl (aR _)⟩
  ·rw[j]at f;cases f
 ·intro b m _ _;rw[ag.bE,au aa]
 ·intro c R _;exact u R
theorem Lz(x:Obj):(w.alloc x).heap[w.heap.size]? =some x:=by
 show(w.heap.push x)[w.heap.size]? =_;simp
theorem anl(a:Rel φ H w){r:V×ag}(h:Jq [] H=some r):rK P φ H w ρ ⟨dst,.makeMap e none,ty,pos,after,guard⟩ r.1 r.2:=by
 cases h;refine⟨.value (.map (some w.heap.size)),_,w.alloc (.map #[] 0),_,?_,.inl rfl,Zd a ⟨[],Lz _,by simp[pK]⟩,.map (aO.rV _ _ _)⟩;simp[execOp,Instr.makeMap]
theorem aaR(n:Nat):a∈upto n↔a<n:=by
 induction n with
 |zero=>show a∈[]↔_;simp
 |succ n b=>
  show a∈n::upto n↔_;rw[gL,b];omega
variable{s:V}
theorem ao8(hT:c4 P T)(d:Rel φ H w){t a:TypeId}(o:T.bQ e=some (.map t a))(g:aS φ s (ρ k)){r:V×ag}(h:yI [s] H=some r):rK P φ H w ρ ⟨dst,.range e k,ty,pos,after,guard⟩ r.1 r.2:=by
 generalize q:ρ k=y at g
 cases g<;>first|(cases h;done)|skip
 rename_i u l j;obtain⟨f,n,h⟩:=aD.1 (show av (H.iG u) _=some r from h);cases h;obtain⟨v,m,x⟩:=yp d j n;have p:=sO (P:=P) m rfl;refine⟨.value (.pointer (some ⟨w.heap.size,0,none⟩)),_,w.alloc (.mapIter (some l.c) f.length #[] f.length),_,?_,.inl rfl,Zd d ⟨l,[],aO.um (d.top (aR _)).1 _ _ j,?_,fun a=>absurd rfl a,rfl,fun i b _=>(aaR _).2 b,fun i b=>⟨(aaR _).1 b,aJ⟩⟩,?_⟩
 ·simp only[execOp,Instr.range,q,c8,run_underlying (hT.bQ o),dS,p,fC,run_newObj];rfl
 ·rw[Lz,gx]
 ·have:=aS.ptr (o:=0) (aO.rV φ H.next ⟨w.heap.size,0,0⟩)
  simpa using this
theorem aaO(l:List h)(x:h):∀n,yh l x n=l.set n x:=by
 induction l with
 |nil=>intro n;rfl
 |cons a l b=>intro n;cases n with
  |zero=>rfl
  |succ n=>exact congrArg (a:: ·) (b n)
theorem afO{b:V}(h:vH E s b=some true):s=b∧(match s with|.int _ _=>True|_=>False):=by
 cases E<;>first|(cases h;done)|skip
 cases s<;>first|(cases h;done)|skip
 cases b<;>first|(cases h;done)|skip
 rename_i k x d y;obtain⟨a,h⟩:=cS.1 (show bq (gN k d) (some (lA x y))=some true from h);have c:lA x y=true:=Option.some.inj h;rw[we]at a;rw[qd]at c;have e:k=d:=by simpa using a
 have f:x=y:=by simpa using c
 exact⟨by rw[e,f],trivial⟩
theorem afM{b:V}(h:vH E s b=some true){a c:Value}(e:aS φ s a)(f:aS φ b c)(n:Nat):a=c∧Instr.sameBits n c a=true:=by
 obtain⟨rfl,d⟩:=afO h;cases e<;>first|(exact d.elim)|skip
 all_goals cases f<;>exact⟨rfl,by cases n<;>simp[Instr.sameBits,beq_toListBytes]⟩
theorem afU:∀ {ds:List TypeDesc}{c e:List V},lY ds c e=some true→∀ {f g:List Value},bC φ c f→bC φ e g→∀n,f=g∧(g.zip f).all (fun(x,y)=>Instr.sameBits n x y)=true:=by
 intro ds;induction ds with
 |nil=>
  intro c e h f g i j n;cases c<;>cases e<;>first|(cases h;done)|skip
  cases i;cases j;exact⟨rfl,rfl⟩
 |cons d ds z=>
  intro c e h f g i j n;obtain⟨x,c,y,e,a,b,rfl,rfl,k,l,m⟩:=Ih h;have o:a=true∧b=true:=by simpa using m.symm
  obtain⟨rfl,rfl⟩:=o;obtain⟨A,B,rfl,t,u⟩:=i.cons_inv;obtain⟨C,D,rfl,v,w⟩:=j.cons_inv;obtain⟨p,q⟩:=afM k t v n;obtain⟨r,s⟩:=z l u w n;exact⟨by rw[p,r],by simp[q];simpa using s⟩
variable{x:V→V→Option Bool}
theorem amy(k:qe T e=some x){b:V}(h:x s b=some true){a c:Value}(i:aS φ s a)(j:aS φ b c):Instr.sameBits 10000 c a=true:=by
 obtain⟨_,_,ds,_,_,rfl⟩:=yc k;obtain⟨q,y,rfl,rfl,g⟩:=Jk h;obtain⟨o,rfl,m⟩:=i.xx;obtain⟨p,rfl,n⟩:=j.xx;obtain⟨d,f⟩:=afU g m n 9999;have l:o.length=p.length:=by rw[d]
 simp[Instr.sameBits,l];simpa using f
theorem ans:∀ {a:List (V×V)}{i j:Nat}{v:V},n4 x s a i=some (some (j,v))→∃c,i≤j∧a[j-i]? =some (c,v)∧x s c=some true:=by
 intro a;induction a with
 |nil=>intro i j v h;cases h
 |cons e a l=>
  intro i j v h;obtain⟨b,k,⟨rfl,d⟩|⟨rfl,d⟩⟩:=aaT h
  ·cases d;exact⟨e.1,aR _,aJ,k⟩
  ·obtain⟨c,m,f,g⟩:=l d;refine⟨c,aa,?_,g⟩;have:j-i=(j-(i+1))+1:=aa;rw[this];simpa using f
theorem arA(hT:c4 P T)(z:Rel φ H w){W n:TypeId}(hd:T.bQ e=some (.map W n))(D:qe T W=some x){k v:V}{X c f:Value}(hm:aS φ s X)(t:aS φ k c)(U:aS φ v f){r:V×ag}(h:w7 x [s,k,v] H=some r):
 ∃w',(Instr.mapUpdate e X c f).run P w=.ok () w'∧Ext φ H w φ r.2 w'∧r.1=V.undef:=by
 cases hm<;>first|(cases h;done)|skip
 rename_i a7 l y;obtain⟨b,hb,h⟩:=aD.1 (show av (x k k) _=some r from h);obtain⟨d,J,h⟩:=aD.1 h;obtain⟨q,K,h⟩:=aD.1 h;have R:=Jr J;obtain⟨g,B,m⟩:=yp z y J;obtain⟨Y,g3,C⟩:=Zu hT D t m K w;have N:=sO (P:=P) B rfl;have M:=Ys hT D t hb false w;have O:=z.loc y;have S:=run_underlying (hT.bQ hd) w;cases q with
 |none=>
  cases h;cases Y with
  |some o=>exact C.elim
  |none=>
   have F:=Ki (P:=P) (o':=.map ((⟨g⟩:Array MapEntry).push { key:=c,val:=f,born:=d.length }) (d.length+1)) B rfl;refine⟨_,?_,II z y R (o':=.map (ez d [(k,v)])) (x:=.map ((⟨g⟩:Array MapEntry).push { key:=c,val:=f,born:=d.length }) (d.length+1)) ?_,rfl⟩
   ·simp only[Instr.mapUpdate,c8,S,dS,N,M,g3,F]
   ·refine⟨g++[{ key:=c,val:=f,born:=d.length }],?_,?_⟩
    ·rw[JY O,iV];simp
    ·rw[iV];refine⟨by simp[m.1],?_⟩;intro i G I a;rcases k4 i d.length with Q|hge
     ·rw[k3 Q]at a;obtain⟨o,p,A⟩:=m.2 i G I a;exact⟨o,by rw[k3 (by rw[m.1];exact Q)];exact p,A⟩
     ·rw[pI hge]at a;have ar:i=d.length:=by
       have:=(fo.1 a).1;simp at this;omega
      subst ar;simp at a;obtain⟨rfl,rfl⟩:=a;refine⟨{ key:=c,val:=f,born:=d.length },?_,t,U,rfl⟩;rw[pI (by rw[m.1];exact aR _),m.1];simp
 |some o=>
  obtain⟨j,u⟩:=o;cases h;cases Y with
  |none=>exact C.elim
  |some x'=>
   obtain⟨j',u'⟩:=x';obtain⟨rfl,a5⟩:=C;obtain⟨k0,_,L,h4⟩:=ans K;rw[Nat.sub_zero]at L;obtain⟨Z,p,A,f3,f4⟩:=m.2 j k0 u L;have am:=amy D h4 t A;have a4:j<g.length:=(fo.1 p).1;have F:=Ki (P:=P) (o':=.map ((⟨g⟩:Array MapEntry).modify j fun n=> { n with key:=c,val:=f }) d.length) B rfl;refine⟨_,?_,II z y R (o':=.map (yh d (k,v) j)) (x:=.map ((⟨g⟩:Array MapEntry).modify j fun n=> { n with key:=c,val:=f }) d.length) ?_,rfl⟩
   ·have aw:(Instr.keyThatStays ((((⟨g⟩:Array MapEntry)[j]?).map (·.key)).getD c) c).run P w=.ok c w:=by
     have:(⟨g⟩:Array MapEntry)[j]? =some Z:=by simpa using p
     simp[Instr.keyThatStays,this,am]
    simp only[Instr.mapUpdate,c8,S,dS,N,M,g3,aw,F]
   ·refine⟨g.modify j fun n=> { n with key:=c,val:=f },?_,?_⟩
    ·rw[JY O,aaO];simp
    ·rw[aaO];refine⟨by simp[m.1],?_⟩;intro i G I a;rw[List.getElem?_set]at a;rw[List.getElem?_modify];by_cases E:j=i
     ·subst E;rw[ay rfl]at a;split at a
      ·cases a;refine⟨{ Z with key:=c,val:=f },by simp[p],t,U,f4⟩
      ·cases a
     ·rw[au E]at a;obtain⟨o,e1,e2⟩:=m.2 i G I a;exact⟨o,by simp[E,e1],e2⟩
end
section
variable {P:Program}{φ:aO}{H H':ag}{w w':World}{ρ:Operand→Value}{T:cE}{N:eF}{F:Fr}{dst:Option Tmp}{ty:TypeId}{pos:String}{after:Array Edge}{guard:Option (Nat×Bool)}
variable{u:Array TypeId}{s:V}
theorem agm(hT:c4 P T)(i:Rel φ H w){st:TypeId}(W:T.bQ st=some (.slice e))(L:iw T e=some a)(K:u[0]? =some st){c x:Operand}{y:V}(M:aS φ s (ρ c))(j:aS φ y (ρ x)){r:V×ag}(h:nq a [s,y] H=some r):
 rK P φ H w ρ ⟨dst,.call ⟨.builtin .copy,#[c,x],u⟩,ty,pos,after,guard⟩ r.1 r.2:=by
 have N:=run_underlying (hT.bQ W)
 have F:∀ {f:Option Addr}{z D m k:Nat}{n:List Value}{w':World},ρ c=.slice f z D→(Builtin.lenOf (ρ x)).run P w=.ok m w→Nat.min m z=k→(Builtin.firstCells a k (ρ x)).run P w=.ok ⟨n⟩ w→
  (match f with|some f=>storeCells f n|none=>pure ():Sem Unit).run P w=.ok () w'→
  (execOp ρ ⟨dst,.call ⟨.builtin .copy,#[c,x],u⟩,ty,pos,after,guard⟩).run P w=.ok (.value (.int .i64 k)) w':=by
  intro f z D m k n w' A B I J E;simp only[execOp,resolve,invoke,builtin,Builtin.copy_];have Z:(#[ρ c,ρ x]:Array Value)[0]? =some (ρ c):=rfl;have g1:(#[ρ c,ρ x]:Array Value)[1]? =some (ρ x):=rfl;have ac:(#[c,x]:Array Operand).map ρ=#[ρ c,ρ x]:=aJ;cases f with
  |none=>cases E;simp[K,A,N,B,I,kV hT L,J,goInt]
  |some f=>simp at E;simp[K,A,N,B,I,kV hT L,J,goInt,E]
 generalize G:ρ c=al at M
 cases M<;>first|(cases h;done)|skip
 ·rename_i b o z D Y l S ad ae;obtain⟨m,t,p⟩:=aD.1 (show av (j_ y) _=some r from h);obtain⟨O,g,q⟩:=aD.1 p;obtain⟨X,U,R⟩:=aD.1 q;cases R;obtain⟨n,C,v⟩:=Bt (P:=P) i j g;obtain⟨A,B⟩:=CG (P:=P) i S C U;have d:=v 0;simp only[cO]at d;refine⟨_,_,_,φ,F G (BN j t) (k:=dO m z) (by rw[B0]) d A,.inl rfl,B,.int _ _⟩
 ·obtain⟨m,t,p⟩:=aD.1 (show av (j_ y) _=some r from h);obtain⟨O,g,q⟩:=aD.1 p;cases q;obtain⟨n,C,v⟩:=Bt (P:=P) i j g;have d:=v 0;simp only[cO]at d;exact⟨_,_,_,φ,F G (BN j t) (k:=0) aJ d rfl,.inl rfl,Ext.refl i,.int _ _⟩
 ·obtain⟨m,t,p⟩:=aD.1 (show av (j_ y) _=some r from h);obtain⟨O,g,q⟩:=aD.1 p;cases q;have Q:=Zw g;subst Q;obtain⟨n,C,v⟩:=Bt (P:=P) i j g;cases C;have d:=v 0;simp only[cO]at d;exact⟨_,_,_,φ,F G (BN j t) (k:=0) aJ d rfl,.inl rfl,Ext.refl i,.int _ _⟩
theorem ag6(hT:c4 P T)(E:Rel φ H w)(o:Oper){g:List V→ag→Option (V×ag)}(j:cop N T o.op=.gb t g)(D:jc φ F ρ o.op.operands.toList){r:V×ag}(h:g (vals t F) H=some r):
 rK P φ H w ρ o r.1 r.2:=by
 obtain⟨dst,a0,ty,pos,after,guard⟩:=o;simp only at j D;cases a0<;>simp only[cop,reduceCtorEq]at j<;>simp only[Op.operands]at D
 case assign x=>
  obtain⟨f,C,j⟩:=aD.1 (dD j aJ);cases j;cases h;exact aef E (n8 D C)
 case store M a v=>
  obtain⟨J,C,j⟩:=aD.1 (dD j aJ);obtain⟨n,S,j⟩:=aD.1 j;cases j;obtain⟨x,y,B,A,u⟩:=w5 D C;rw[B]at h;exact aqO hT E S A u h
 case makeMap M q=>
  cases q<;>cases j;exact anl E h
 case mapUpdate M m k v=>
  obtain⟨J,R,j⟩:=aD.1 (dD j aJ);obtain⟨d,I,j⟩:=aD.1 j;cases d<;>simp only[reduceCtorEq]at j;obtain⟨f,C,j⟩:=aD.1 j;cases j;obtain⟨a,b,c,B,A,u,L⟩:=acW D R;rw[B]at h;obtain⟨w',Z,g2,g3⟩:=arA hT E I C A u L h;exact⟨.skip,undef,w',φ,by simp[execOp,Z],.inr ⟨rfl,rfl⟩,g2,by rw[g3];exact .aK .nil⟩
 case range M x=>
  obtain⟨f,C,j⟩:=aD.1 (dD j aJ);obtain⟨d,I,j⟩:=aD.1 j;cases d<;>simp only[reduceCtorEq]at j<;>cases j;exact ao8 hT E I (n8 D C) h
 case call c=>
  obtain⟨callee,O,ts⟩:=c;have G:=dD j aJ;clear j;have ae:jc φ F ρ O.toList:=fun y hy=>D y (by simp[Call.operands];exact .inr (by simpa using hy))
  cases callee with
  |value x=>cases x<;>simp only[]at G<;>exact dead G
  |invoke x m=>cases G
  |builtin bi=>
   obtain⟨J,R,G⟩:=aD.1 G;have p:=dD (Option.some.inj G) aJ;obtain⟨M,ht,p⟩:=aD.1 p;obtain⟨d,I,p⟩:=aD.1 p;have Y:=lk ht;have B:=ny R ae
   have W:∀ {q:List V→ag→Option (V×ag)},(∀ {a b c},q (a::b::c) H=some r→c=[])→(∀ {a},q [a] H≠some r)→q [] H≠some r→q (vals J F) H=some r→
    ∃x y a b,O=#[x,y]∧vals J F=[a,b]∧aS φ a (ρ x)∧aS φ b (ρ y):=by
    intro q a3 q1 q0 s;generalize hl:vals J F=l at B s
    obtain⟨m⟩:=O
    match l,s with
    |[],s=>exact absurd s q0
    |[a],s=>exact absurd s q1
    |a::b::c,s=>
     have:=a3 s;subst this
     match m with
     |[]=>cases B
     |[_]=>cases B with|cons _ u=>cases u
     |[x,y]=>cases B with|cons A u=>cases u with|cons L U=>exact⟨x,y,a,b,rfl,rfl,A,L⟩
     |_::_::_::_=>cases B with|cons A u=>cases u with|cons L U=>cases U
   cases bi<;>simp only[reduceCtorEq]at p
   case append=>
    split at p
    ·rename_i e ac;obtain⟨i,hi,p⟩:=aD.1 p;obtain⟨z,K,p⟩:=aD.1 p;obtain⟨zs,aw,p⟩:=aD.1 p;obtain⟨X,p⟩:=cS.1 p;cases z<;>simp only[reduceCtorEq,Option.some.injEq,b4.gb.injEq]at p;obtain⟨rfl,rfl⟩:=p;obtain⟨xt,ap,K⟩:=aD.1 K;obtain⟨a6,am,K⟩:=aD.1 K;obtain⟨x,y,a,b,rfl,Q,A,u⟩:=W (q:=ga i.size i.bytes) (fun{a b c} s=>by cases c with|nil=>rfl|cons=>cases s) (fun s=>by cases s) (fun s=>by cases s) h;rw[Q]at h;rw[beq_eq,gx]at X;refine aeb hT E I hi aw X (hT.bQ am) (fun k e=>?_) Y (lk ap) A u h;subst e;cases K
    ·cases p
   case copy=>
    split at p
    ·rename_i e ac;obtain⟨n,S,p⟩:=aD.1 p;cases p;obtain⟨x,y,a,b,rfl,Q,A,u⟩:=W (q:=nq n) (fun{a b c} s=>by cases c with|nil=>rfl|cons=>cases a<;>cases s) (fun{a} s=>by cases a<;>cases s) (fun s=>by cases s) h;rw[Q]at h;exact agm hT E I S Y A u h
    ·cases p
   all_goals exact dead p
 case makeFunc f _ _=>
  cases f<;>simp only[reduceCtorEq]at j;exact dead j
 all_goals exact dead j
end
section
variable {P:Program}{φ:aO}{H H':ag}{w:World}{ρ:Operand→Value}{T:cE}{N:eF}{F F':Fr}{G:Nat}
variable{A:FuncId}
theorem aci{a:Func}{c:Code}(e:P.funcs[A]? =some a)(d:a.body=some c)(f:(a.name== "runtime.NumGoroutine")=false)(b:Array Value)(w:World):(callFunc A b).run P w=.ok (.enter A b) w:=by
 have g:¬a.name= "runtime.NumGoroutine":=by simpa using f
 simp[callFunc,e,g,d]
def Lb(P:Program)(f:FuncId):Prop:=∃a c,P.funcs[f]? =some a∧a.body=some c∧(a.name== "runtime.NumGoroutine")=false
def K_(P:Program)(φ:aO)(w:World)(s:Sem Next)(b:List V):nQ→Prop
 |.fn f=>Lb P f→∃a,s.run P w=.ok (.enter f ⟨a⟩) w∧bC φ b a
theorem afA(R:∀f,ρ (.func f)=.func (.func f) #[] #[]) (o:Oper) {g:List V→Option (nQ×List V)} (d:cop N T o.op=.call t g) (k:jc φ F ρ o.op.operands.toList) {n:nQ} (h:g (vals t F)=some (n,b)):
 K_ P φ w (execOp ρ o) b n:=by
 obtain⟨E,S,X,U,after,guard⟩:=o;simp only at d k;cases S<;>simp only[cop,reduceCtorEq]at d<;>simp only[Op.operands]at k
 case call c=>
  obtain⟨callee,e,W⟩:=c;have a:=dD d aJ;clear d;have M:jc φ F ρ e.toList:=fun y v=>k y (by simp[Call.operands];exact .inr (by simpa using v))
  have B:e.map ρ=⟨e.toList.map ρ⟩:=by apply rI;simp
  cases callee with
  |value x=>
   have O:∀ {i:List (Fr→V)},hL (x::e.toList)=some i→r0 (vals i F)=some (n,b)→K_ P φ w (execOp ρ ⟨E,.call ⟨.value x,e,W⟩,X,U,after,guard⟩) b n:=by
    intro i j q;have u:=ny j (φ:=φ) (F:=F) (ρ:=ρ) (fun y v=>k y (by simp[Call.operands];simpa using v));generalize vals i F=l at u q
    rw[List.map_cons]at u;cases u with
    |cons z J=>
     generalize Q:ρ x=x' at z
     cases z<;>first|(cases q;done)|skip
     rename_i G as bs C D K L;cases q;rintro⟨H,c,r,p,s⟩;refine⟨C++(e.toList.map ρ++D),?_,?_⟩
     ·simp only[execOp,resolve,Q,Deferred.ofValue,invoke];simp only[c8,fC,dS];rw[aci r p s];congr 2;apply rI;simp[B]
     ·rw[iV,iV];exact K.append (J.append L)
   cases x<;>simp only[]at a
   case func G=>
    obtain⟨I,Z,a⟩:=aD.1 a;obtain⟨i,j,a⟩:=aD.1 a;cases A:I.body with
    |none=>
     rw[A]at a;exact dead a
    |some Y=>
     rw[A]at a;cases a;cases h;rintro⟨H,c,r,p,s⟩;refine⟨e.toList.map ρ,?_,ny j M⟩;simp only[execOp,resolve,R,Deferred.ofValue,invoke];simp only[c8,fC,dS];rw[aci r p s];congr 2;apply rI;simp[B]
   all_goals
    obtain⟨i,j,a⟩:=aD.1 a;cases a;exact O j h
  |invoke x m=>cases a
  |builtin bi=>exact dead a
 case makeFunc f _ _=>
  cases f<;>simp only[reduceCtorEq]at d;exact dead d
 all_goals exact dead d
end
theorem mR{f:h→h→Bool}(e:∀a b,f a b=true→a=b):∀l m,fE f l m=true→l=m:=by
 intro l;induction l with
 |nil=>intro m c;cases m with
  |nil=>rfl
  |cons=>cases c
 |cons a l g=>intro m c;cases m with
  |nil=>cases c
  |cons b m=>
   have d:and (f a b) (fE f l m)=true:=c;rw[cz]at d;rw[e a b d.1,g m d.2]
theorem aft{a b:Cap}(h:H_ a b=true):a=b:=by
 cases a<;>cases b<;>first|(cases h;done)|rfl|(rw[(beq_eq _ _).1 h])
theorem KP:∀n a b,qu n a b=true→a=b:=by
 intro n;induction n with
 |zero=>intro a b h;cases h
 |succ n d=>
  intro a b h;cases a<;>cases b<;>first|(cases h;done)|skip
  ·rename_i x y;cases x<;>cases y<;>first|rfl|cases h
  ·rename_i k x l y;have c:and (gN k l) (lA x y)=true:=h;rw[cz,we,qd,decide_eq_true_eq,decide_eq_true_eq]at c;rw[c.1,c.2]
  ·rename_i x y;rw[mR (f:=m3) (fun a b h=>by rw[KJ]at h;simpa using h) x y h]
  ·rename_i x y z t;have c:and (bK x z) (bK y t)=true:=h;rw[cz,beq_eq,beq_eq]at c;rw[c.1,c.2]
  ·rfl
  ·rename_i p q r s x y z t;have c:and (and (bK p x) (bK q y)) (and (bK r z) (H_ s t))=true:=h;rw[cz,cz,cz,beq_eq,beq_eq,beq_eq]at c;rw[c.1.1,c.1.2,c.2.1,aft c.2.2]
  ·rfl
  ·rfl
  ·rename_i x y;rw[(beq_eq _ _).1 h]
  ·rfl
  ·rename_i f x y g z t;have c:and (bK f g) (and (fE (qu n) x z) (fE (qu n) y t))=true:=h;rw[cz,cz,beq_eq]at c;rw[c.1,mR d _ _ c.2.1,mR d _ _ c.2.2]
  ·rfl
  ·rfl
  ·rename_i x y;rw[mR d _ _ h]
  ·rename_i x y;rw[mR d _ _ h]
  ·rename_i x y z t;have c:and (bK x z) (fE (qu n) y t)=true:=h;rw[cz,beq_eq]at c;rw[c.1,mR d _ _ c.2]
  ·rename_i x y z t;have c:and (fE (qu n) x z) (bK y t)=true:=h;rw[cz,beq_eq]at c;rw[c.2,mR d _ _ c.1]
  ·rfl
def Post(φ:aO)(H:ag)(w:World)(Q:V→ag→Prop)(e:Ending)(c:World):Prop:=∃v a H' b,e=.returned a∧Ext φ H w b H' c∧aS b v a∧Q v H'
def e6(P:Program)(G:Nat)(t:nQ)(b:List V)(H:ag)(Q:V→ag→Prop):Prop:=match t with
 |.fn f=>Lb P f∧∀(φ:aO) (w:World) (a:List Value),Rel φ H w→kn G φ→bC φ b a→Calls P f ⟨a⟩ w (Post φ H w Q)
variable{K:V→ag→Prop}
theorem Post.mono{Q:V→ag→Prop}(h:∀v H',Q v H'→K v H'){e:Ending}{b:World}(p:Post n c q Q e b):Post n c q K e b:=
 let⟨v,j,H',k,d,f,g,i⟩:=p;⟨v,j,H',k,d,f,g,h _ _ i⟩
theorem e6.mono{P:Program}{t:nQ}{Q:V→ag→Prop}(h:∀v H',Q v H'→K v H')(d:e6 P a t b c Q):e6 P a t b c K:=by
 cases t with
 |fn f=>exact⟨d.1,fun _ _ _ e g i=>(d.2 _ _ _ e g i).mono fun _ _=>Post.mono h⟩
def nF(i:Nat)(l:List Nat):List Nat:=kB (fun j=> !(bK j i)) l
def zk(v:V)(H:ag)(Q:V→ag→Prop):Prop:=∃b m since left c d a,v=.ptr b 0∧H.get b=.cv (.iter m since left c d)∧H.get m=.cv (.map a)∧
 (∀i k x,a[i]? =some (k,x)→(i∈left∨since≤i)→Q (.aK [.bool true,k,x]) (H.set b (.cv (.iter m since (nF i left) (some i) a.length))))∧
 ((∀i∈left,a.length≤i)→Q (.aK [.bool false]) H)
def iP(P:Program)(G:Nat)(s:Step)(F:Fr)(H:ag)(K:Fr→ag→Prop):Prop:=
 (s.want F=some false∧K (put F s.dst V.undef) H)∨(s.want F=some true∧match s.cop with
   |.call d g=>∃t c,g (vals d F)=some (t,c)∧e6 P G t c H fun v a=>K (put F s.dst v) a
   |.lF x=>zk (x F) H fun v a=>K (put F s.dst v) a
   |_=>∃b a,exec o5 s F H=some (b,a)∧K b a)
def uW(s:Step)(F:Fr)(H:ag):Prop:=s.want F=some false∨(s.want F=some true∧∀a g,s.cop=.rd a g→∃v,g (vals a F) H=some v∧∀t,s.dst=some t→bM.kP V.undef (path t) F=v)
theorem adW{s:Step}(h:again s o c=true):uW s o c:=by
 unfold again at h;cases b:s.want o with
 |none=>rw[b]at h;cases h
 |some j=>
  cases j with
  |false=>exact .inl b
  |true=>
   refine .inr ⟨b,?_⟩;intro d g f;rw[b]at h
   have a:(match s.cop with
    |.rd d g=>Option.casesOn (motive:=fun _=>Bool) (g (vals d o) c) false (fun v=>Option.casesOn (motive:=fun _=>Bool) s.dst true (fun t=>qu 20 v (bM.kP V.undef (path t) o)))
    |_=>true)=true:=h
   rw[f]at a;cases e:g (vals d o) c with
   |none=>simp only[e]at a;cases a
   |some v=>
    refine⟨v,rfl,?_⟩;intro t i;simp only[e,i]at a;exact(KP _ _ _ a).symm
def fZ(P:Program)(G:Nat):List b_→Fr→ag→(Fr→ag→Prop)→Prop
 |[],F,H,Q=>Q F H
 |.ex s::l,F,H,Q=>iP P G s F H fun a b=>fZ P G l a b Q
 |.re s::l,F,H,Q=>uW s F H∧fZ P G l F H Q
variable{f:Fr→ag→Prop}
theorem iP.mono{P:Program}{s:Step}{w:Fr→ag→Prop}(h:∀o c,f o c→w o c)(p:iP P g s o c f):iP P g s o c w:=by
 rcases p with⟨u,d⟩|⟨u,d⟩
 ·exact .inl ⟨u,h _ _ d⟩
 ·refine .inr ⟨u,?_⟩;cases q:s.cop with
  |call v r=>rw[q]at d;obtain⟨t,y,e,j⟩:=d;exact⟨t,y,e,j.mono fun _ _=>h _ _⟩
  |lF x=>
   rw[q]at d;obtain⟨b,m,since,left,z,D,A,e,j,g3,B,C⟩:=d;exact⟨b,m,since,left,z,D,A,e,j,g3,fun i k x a b=>h _ _ (B i k x a b),fun a=>h _ _ (C a)⟩
  |bad=>rw[q]at d;obtain⟨l,n,e,j⟩:=d;exact⟨l,n,e,h _ _ j⟩
  |pu v r=>rw[q]at d;obtain⟨l,n,e,j⟩:=d;exact⟨l,n,e,h _ _ j⟩
  |rd v r=>rw[q]at d;obtain⟨l,n,e,j⟩:=d;exact⟨l,n,e,h _ _ j⟩
  |gb v r=>rw[q]at d;obtain⟨l,n,e,j⟩:=d;exact⟨l,n,e,h _ _ j⟩
theorem fZ.mono{P:Program}{Q:Fr→ag→Prop}(h:∀F H,Q F H→f F H):∀ {l:List b_}{F:Fr}{H:ag},fZ P a l F H Q→fZ P a l F H f:=by
 intro l;induction l with
 |nil=>exact fun p=>h _ _ p
 |cons i l b=>
  intro F H p;cases i with
  |ex s=>exact iP.mono (fun _ _=>b) p
  |re s=>exact⟨p.1,b p.2⟩
theorem fZ.app{P:Program}:∀ {l c:List b_}{F:Fr}{H:ag},fZ P a (l++c) F H f↔fZ P a l F H fun d e=>fZ P a c d e f:=by
 intro l;induction l with
 |nil=>intro c F H;rfl
 |cons i l b=>
  intro c F H;cases i with
  |ex s=>exact⟨iP.mono fun _ _=>b.1,iP.mono fun _ _=>b.2⟩
  |re s=>exact⟨fun p=>⟨p.1,b.1 p.2⟩,fun p=>⟨p.1,b.2 p.2⟩⟩
def fw(ro:Option Nat):Fence:= { Fence.wide with round:=ro }
section
variable {P:Program}{φ:aO}{H H':ag}{w:World}{T:cE}{N:eF}{F F':Fr}{G:Nat}{cf:jl}{ro:Option Nat}{nn:Nat}
theorem sw{f:h→Bool}{l:List h}:kS f l=true↔∀x∈l,f x=true:=by
 induction l with
 |nil=>simp[kS]
 |cons a l b=>
  have e:kS f (a::l)=and (f a) (kS f l):=rfl;rw[e,cz,b];simp
theorem JL(h:sG G a k=true):abj G a k:=by
 cases k with
 |tmp t=>exact(eN _ _).1 h
 |global g=>exact(eN _ _).1 h
 |_=>trivial
variable{Y:Oper}
theorem aoj{a:Act}(h:mh G a.tmps.size Y=true)(b:jd φ F a.tmps)(d:kn G φ):jc φ F a.eval Y.op.operands.toList:=by
 unfold mh at h;rw[cz]at h;intro x e f c;exact abk b d (JL (sw.1 h.2 x e)) c
theorem adl{d:Array Oper}{a:Act}(o:Oper)(f:kZ d.toList o.guard F=some m)(v:∀j b t,o.guard=some (j,b)→vM d.toList j=some t→t<a.tmps.size∧aS φ (F.get V.undef t) (a.tmps.getD t undef)):
 Region.wanted o (yielded d a.tmps)=m:=by
 unfold kZ at f;unfold Region.wanted;cases n:o.guard with
 |none=>
  rw[n]at f;cases f;rfl
 |some s=>
  obtain⟨j,b⟩:=s;rw[n]at f
  have c:Option.casesOn (motive:=fun _=>Fr→Option Bool) (vM d.toList j) (fun _=>some false)
   (fun t F=>l8 b (bM.kP V.undef (path t) F)) F=some m:=f
  clear f;have i:=v j b;simp only[vM,iW]at c i;unfold yielded;cases h:d[j]? with
  |none=>
   have:d.toList[j]? =none:=by simpa using h
   rw[this]at c;cases c;simp[h]
  |some q=>
   have w:d.toList[j]? =some q:=by simpa using h
   rw[w]at c i;simp only[av]at c i;cases g:q.dst with
   |none=>
    rw[g]at c;cases c;simp[h,g]
   |some t=>
    rw[g]at c;obtain⟨p,k⟩:=i t n g;have e:a.tmps.getD t undef=a.tmps[t]:=by simp[p]
    have r:a.tmps[t]? =some a.tmps[t]:=by simp[p]
    rw[e]at k;simp only[h,Option.bind_some,g,r];have l:l8 b (F.get V.undef t)=some m:=c;generalize F.get V.undef t=u at k l
    generalize a.tmps[t]=y at k
    cases k<;>first|(cases l;done)|(cases l;rfl)|skip
    rename_i x;cases l;cases x<;>cases b<;>rfl
theorem arK{c:Array Oper}{a:Act}(h:∀o∈c.toList,JH a.tmps.size o.dst=true)(k:jd φ F a.tmps)(o:Oper)(l:kZ c.toList o.guard F=some m):Region.wanted o (yielded c a.tmps)=m:=by
 refine adl (φ:=φ) o l (fun j b t _ g=>?_);obtain⟨n,d,i⟩:=aD.1 (show av (eu c.toList j) (fun o=>o.dst)=some t from g);rw[iW]at d;have e:=h n (er d);rw[i]at e;have f:t<a.tmps.size:=(eN _ _).1 e;exact⟨f,k t f⟩
theorem yG(a:Act)(d:Option Nat)(v:Value):(a.put d v).tmps.size=a.tmps.size:=by cases d<;>simp[Act.put]
theorem put_defers(a:Act)(d:Option Nat)(v:Value):(a.put d v).defers=a.defers:=by cases d<;>rfl
variable{A:FuncId}
theorem afB{a:Array Value}{R:Ending→World→Prop}(h:Calls P A a w R):CallsIn (fw ro) nn P A a w R:=by
 have c:=(callsIn_wide (n:=nn)).2 h;exact⟨trivial,fun b d=>c.2 b (room_wide _)⟩
theorem aoa{b:Op}{x:Fr→V}(a:cop N T b=.lF x):∃y,b=.next y false∧gQ y=some x:=by
 cases b<;>simp only[cop,reduceCtorEq]at a
 case next y d=>
  obtain⟨f,c,a⟩:=aD.1 (dD a aJ);cases d<;>cases a;exact⟨y,rfl,c⟩
 case makeFunc f _ _=>
  cases f<;>simp only[reduceCtorEq]at a;exact dead a
 all_goals exact dead a
theorem uA{a:Op}(h:cop N T a≠ .bad):∀c,a≠ .defer c:=by
 rintro c rfl;exact h rfl
variable{d:List Nat}
theorem aaS:g∈nF a d↔g∈d∧g≠a:=by
 unfold nF;induction d with
 |nil=>simp[kB]
 |cons c d f=>
  have e:kB (fun g=> !(bK g a)) (c::d)=Bool.casesOn (motive:=fun _=>List Nat) (!(bK c a)) (kB (fun g=> !(bK g a)) d) (c::kB (fun g=> !(bK g a)) d):=rfl;rw[e];by_cases h:c=a
  ·subst h;have:bK c c=true:=(beq_eq _ _).2 rfl;simp only[this,dZ,f,gL];constructor
   ·rintro⟨h1,b⟩;exact⟨.inr h1,b⟩
   ·rintro⟨h1|h1,b⟩
    ·exact absurd h1 b
    ·exact⟨h1,b⟩
  ·have:bK c a=false:=mB.2 (fun e=>h ((beq_eq _ _).1 e));simp only[this,gS,gL,f];constructor
   ·rintro(h1|⟨h1,b⟩)
    ·exact⟨.inl h1,h1▸h⟩
    ·exact⟨.inr h1,b⟩
   ·rintro⟨h1|h1,b⟩
    ·exact .inl h1
    ·exact .inr ⟨h1,b⟩
theorem Zt(b:pK φ L S){e:MapEntry}(h:e∈S):∃i k v,L[i]? =some (k,v)∧e.born=i∧aS φ k e.key∧aS φ v e.val:=by
 obtain⟨i,c,rfl⟩:=List.mem_iff_getElem.1 h;have l:i<L.length:=by rw[←b.1];exact c
 have d:L[i]? =some (L[i].1,L[i].2):=cH l;obtain⟨x,a,f,g,j⟩:=b.2 i _ _ d;rw[cH c]at a;cases a;exact⟨i,_,_,d,j,f,g⟩
variable{z:Nat}
theorem anZ(G:Rel φ H w){p:Value}(hp:aS φ (.ptr a 0) p){since:Nat}{left:List Nat}(m:H.get a=.cv (.iter g since left j z))(D:H.get g=.cv (.map L))(ty:TypeId):
 ∃v v' H' w',(Instr.next p false ty).run P w=.ok v' w'∧Ext φ H w φ H' w'∧aS φ v v'∧((∃i k x,L[i]? =some (k,x)∧(i∈left∨since≤i)∧v=.aK [.bool true,k,x]∧H'=H.set a (.cv (.iter g since (nF i left) (some i) L.length)))∨
  ((∀i∈left,L.length≤i)∧v=.aK [.bool false]∧H'=H)):=by
 cases hp with
 |ptr E=>
 rename_i l;obtain⟨a6,q,seen,N,O,g3,cb,Q,R⟩:=G.cv E m;obtain⟨_,o,g4,r⟩:=G.cv N D;have ba:=sO (P:=P) O rfl;have bb:=sO (P:=P) g4 rfl;have a8:(!(⟨seen⟩:Array Nat).isEmpty&& !(⟨o⟩:Array MapEntry).isEmpty&&(⟨o⟩:Array MapEntry).all (fun e=>decide (e.born≥z)))=false:=by
  cases seen with
  |nil=>simp
  |cons cf ss=>
   have hl:=g3 aJ;cases o with
   |nil=>simp
   |cons e0 ca=>
    obtain⟨i,k,v,B,C,_⟩:=Zt r (e:=e0) aJ;have h0:=r.1;cases L with
    |nil=>simp at h0
    |cons x0 xr=>
     obtain⟨k0,v0⟩:=x0;obtain⟨y,A,_,_,M⟩:=r.2 0 k0 v0 aJ;simp at A;subst A;simp[M];intro hh;omega
 let J:=(⟨o⟩:Array MapEntry).filter fun e=> !(⟨seen⟩:Array Nat).contains e.born
 let b:=J.filter (fun e=>decide (e.born<since));let u:=J.filter (fun e=>decide (e.born≥since));let f:Array (Option MapEntry):=(if b.isEmpty then #[none]else #[])++(b++u).map some;have T:0<f.size:=by
  show 0<((if b.isEmpty then #[none]else #[])++(b++u).map some:Array (Option MapEntry)).size;by_cases h:b.isEmpty
  ·simp[h];omega
  ·have:0<b.size:=by
    rcases qH b.size with e|e
    ·exact absurd (by simpa [Array.isEmpty]using e) h
    ·exact e
   simp;omega
 obtain⟨d,K,s,bv,a7⟩:∃d K,d<f.size∧(∃k,K= { w with drawn:=w.drawn+k })∧(choose (.mapNext f.size)).run P w=.ok d K:=by
  by_cases X:(Question.mapNext f.size).forced=true
  ·exact⟨0,w,T,⟨0,rfl⟩,by rw[run_choose_drew,ay X]⟩
  ·exact⟨_,w.drew,eK _ T,⟨1,rfl⟩,by rw[run_choose_drew,au X];rfl⟩
 obtain⟨t,rfl⟩:=bv;have I:=G.drew t;have W:Ext φ H w φ H { w with drawn:=w.drawn+t }:=⟨I,aO.le_refl φ,fun e1 e2=>absurd (e1.symm.trans e2) aJ,fun _ _ _=>rfl,aR _,fun _ _=>rfl,aR _,⟨rfl,rfl,rfl,fun h=>h,fun _ cs _ _ h=>⟨cs,h,rfl⟩⟩,fun _ h=>⟨h,rfl⟩,fun _ _ e=>.inl e⟩;obtain⟨n,S⟩:∃n,f[d]? =some n:=⟨f[d],by simp[s]⟩
 have Y:(Instr.next (.pointer (some ⟨l.c,l.base+0,none⟩)) false ty).run P w=(match(some n:Option (Option MapEntry))with
  |some (some e)=>(do setObj l.c (.mapIter (some q.c) since ((⟨seen⟩:Array Nat).push e.born) L.length);pure (.tuple #[.bool true,e.key,e.val]):Sem Value)
  |some none=>(pure (.tuple #[.bool false]):Sem Value)
  |none=>stuck "Next: no such candidate").run P { w with drawn:=w.drawn+t }:=by
  simp only[Instr.next,a6,cO,c8,ba,dS,bb,a8,kj,if_false]
  show((choose (.mapNext f.size)).run P w).andThen _=_;rw[a7];simp only[dS]
  show(match f[d]? with
   |some (some e)=>(do setObj l.c (.mapIter (some q.c) since ((⟨seen⟩:Array Nat).push e.born) L.length);pure (.tuple #[.bool true,e.key,e.val]):Sem Value)
   |some none=>(pure (.tuple #[.bool false]):Sem Value)
   |none=>stuck "Next: no such candidate").run P { w with drawn:=w.drawn+t }=_
  rw[S]
 have a9:n∈f:=Array.mem_of_getElem? S;have U:n∈((if b.isEmpty then #[none]else #[])++(b++u).map some:Array (Option MapEntry)):=a9;cases n with
 |none=>
  have bj:b.isEmpty=true:=by
   by_cases h:b.isEmpty
   ·exact h
   ·simp[h]at U
  refine⟨.aK [.bool false],.tuple #[.bool false],H,_,?_,W,.aK (.cons (.bool false) .nil),.inr ⟨?_,rfl,rfl⟩⟩
  ·rw[Y];simp
  ·intro i be;obtain⟨bc,F⟩:=R i be;refine ja fun bd=>?_
   obtain⟨x,A,_,_,M⟩:=r.2 i L[i].1 L[i].2 (cH bd);have hx:x∈b:=by
    have b0:x∈o:=er A;show x∈(Array.filter _ (Array.filter _ ⟨o⟩));simp[b0,M,F,bc]
   have:b=#[]:=by simpa using bj
   rw[this]at hx;simp at hx
 |some e=>
  have a':e∈J:=by
   have m:e∈b∨e∈u:=by
    rcases Array.mem_append.1 U with h|h
    ·split at h<;>simp at h
    ·simpa using h
   rcases m with h|h
   ·exact(Array.mem_filter.1 h).1
   ·exact(Array.mem_filter.1 h).1
  have V:=Array.mem_filter.1 a';obtain⟨i,k,v,B,C,f3,f4⟩:=Zt r (e:=e) (by simpa using V.1);have F:i∉seen:=by
   have:=V.2;simp[C]at this;exact this
  have a1:({ w with drawn:=w.drawn+t }:World).heap[l.c]? =some (.mapIter (some q.c) since ⟨seen⟩ z):=O;have bs:=Ki (P:=P) (o':=.mapIter (some q.c) since ((⟨seen⟩:Array Nat).push e.born) L.length) a1 rfl;refine⟨.aK [.bool true,k,v],.tuple #[.bool true,e.key,e.val],_,_,?_,W.trans (II I E m (o':=.iter g since (nF i left) (some i) L.length) (x:=.mapIter (some q.c) since ((⟨seen⟩:Array Nat).push e.born) L.length) ?_),.aK (.cons (.bool true) (.cons f3 (.cons f4 .nil))),.inl ⟨i,k,v,B,(if Z:i<since then .inl (Q i Z F)else .inr (ja Z)),rfl,rfl⟩⟩
  ·rw[Y];simp only[c8,bs,dS,fC]
  ·refine⟨q,seen++[i],N,?_,fun _=>?_,aJ,?_,?_⟩
   ·rw[JY (I.loc E),C];simp
   ·have:=(fo.1 B).1;omega
   ·intro d s bi;have m:d∉seen∧d≠i:=by simpa using bi
    exact aaS.2 ⟨Q d s m.1,m.2⟩
   ·intro d s;obtain⟨m,D⟩:=aaS.1 s;obtain⟨h3,h4⟩:=R d m;exact⟨h3,by simp[h4,D]⟩
theorem acT{D:Array Oper}{Q:Exit→Act→World→Prop}(hi:D[a]? =some Y)(hT:c4 P T)(cA:jo P N){I:Act}
 (M:jc φ F I.eval Y.op.operands.toList) (ae:∀ {wb:Bool},(stepOf N T D.toList Y).want F=some wb→Region.wanted Y (yielded D I.tmps)=wb) (z:Rel φ H w) (hg:kn G φ) (i:iP P G (stepOf N T D.toList Y) F H f) {K:Act→World→Prop}
 (q:∀ {v:V}{s:Value}{U:aO}{E:World}{H':ag},Ext φ H w U H' E→aS U v s→f (put F Y.dst v) H'→K (I.put Y.dst s) E):wpOpIn (fw ro) nn P D Q a K I w:=by
 have am:∀R,I.eval (.func R)=.func (.func R) #[] #[]:=fun R=>rfl
 unfold wpOpIn;simp only[hi];rcases i with⟨A,i⟩|⟨A,i⟩
 ·have A:=ae A;simp only[A,kj,if_false];exact⟨fun _ _=>trivial,q (Ext.refl z) (.aK .nil) i⟩
 ·have bj:=A;have A:=ae A;simp only[A,if_true];refine⟨fun _ _=>trivial,?_⟩;have bi:(stepOf N T D.toList Y).cop=cop N T Y.op:=rfl
  have S:∀ {C:Fr}{o:ag},exec o5 (stepOf N T D.toList Y) F H=some (C,o)→(match cop N T Y.op with
   |.bad=>aW
   |.pu l g=>av (g (vals l F)) fun r=>bx.casesOn (motive:=fun _=>Option (Fr×ag)) r (fun v=>some (put F Y.dst v,H)) (fun cs sh=>some (put F Y.dst (sh.mk H.next),H.push (.cells cs 0)))
   |.rd l g=>av (g (vals l F) H) fun v=>some (put F Y.dst v,H)
   |.gb l g=>av (g (vals l F) H) fun r=>some (put F Y.dst r.1,r.2)
   |.call l g=>av (g (vals l F)) fun c=>av (o5 c.1 c.2 H) fun r=>some (put F Y.dst r.1,r.2)
   |.lF _=>aW)=some (C,o):=by
    intro C o h;unfold exec at h;rw[bj]at h;exact h
  rw[bi]at i;cases d:cop N T Y.op with
  |bad=>
   rw[d]at i;obtain⟨C,o,j,_⟩:=i;have:=S j;rw[d]at this;cases this
  |pu l g=>
   rw[Oper.semAt_eq _ _ _ (uA (N:=N) (T:=T) (by rw[d];simp))];rw[d]at i;obtain⟨C,o,B,n⟩:=i;have u:=S B;clear B;rw[d]at u;obtain⟨r,O,L⟩:=aD.1 u;have hp:=aby hT cA am Y d M O w;cases r with
   |val v=>
    obtain⟨s,j,p⟩:=hp;cases L;rw[j];exact q (Ext.refl z) p n
   |new cf sh=>
    obtain⟨s,E,cd,j,p,J⟩:=hp;cases L;rw[j];exact q (ahs z p) (J _ _ (aO.rV _ _ _)) n
  |rd l g=>
   rw[Oper.semAt_eq _ _ _ (uA (N:=N) (T:=T) (by rw[d];simp))];rw[d]at i;obtain⟨C,o,B,n⟩:=i;have u:=S B;clear B;rw[d]at u;obtain⟨v,O,L⟩:=aD.1 u;cases L;obtain⟨s,j,p⟩:=abT hT z Y d M O;rw[j];exact q (Ext.refl z) p n
  |gb l g=>
   rw[Oper.semAt_eq _ _ _ (uA (N:=N) (T:=T) (by rw[d];simp))];rw[d]at i;obtain⟨C,o,B,n⟩:=i;have u:=S B;clear B;rw[d]at u;obtain⟨r,O,L⟩:=aD.1 u;cases L;obtain⟨ce,s,E,U,j,p,J,h5⟩:=ag6 hT z Y d M O;rw[j];rcases p with rfl|⟨rfl,rfl⟩
   ·exact q J h5 n
   ·exact q J h5 n
  |call l g=>
   rw[Oper.semAt_eq _ _ _ (uA (N:=N) (T:=T) (by rw[d];simp))];rw[d]at i;obtain⟨t,b1,j,n⟩:=i;have bb:=afA (P:=P) (w:=w) am Y d M j;cases t with
   |fn R=>
    obtain⟨b2,p,J⟩:=bb n.1;rw[p];refine⟨fun h=>by simp[fw,Fence.wide]at h,afB ((n.2 _ _ _ z hg J).mono ?_)⟩;rintro e E ⟨v,s,o,U,rfl,h6,h7,h8⟩;exact q h6 h7 h8
  |lF x=>
   rw[Oper.semAt_eq _ _ _ (uA (N:=N) (T:=T) (by rw[d];simp))];rw[d]at i;obtain⟨b,m,since,left,b',cb,es,g1,g2,g3,g4,a8⟩:=i;obtain⟨y,hy,bo⟩:=aoa d;obtain⟨a1,ch,ty,bv,after,guard⟩:=Y;simp only at hy;subst hy;have hv:=M y (by simp[Op.operands]) x bo;rw[g1]at hv;obtain⟨v,s,o,E,f1,X,Z,f4⟩:=anZ (P:=P) z hv g2 g3 ty;have be:(execOp I.eval ⟨a1,.next y false,ty,bv,after,guard⟩).run P w=.ok (.value s) E:=by
    simp only[execOp,c8,f1,dS,fC]
   rw[be];rcases f4 with⟨i',k,x',W,e2,rfl,rfl⟩|⟨W,rfl,rfl⟩
   ·exact q X Z (g4 i' k x' W e2)
   ·exact q X Z (a8 W)
theorem aqM{b:Array Oper}{Q:Exit→Act→World→Prop}(l:b[a]? =some Y)(hT:c4 P T)(cA:jo P N){c:Act}
 (m:∀Y∈b.toList,mh G c.tmps.size Y=true) (u:Rel φ H w) (i:jd φ F c.tmps) (k:kn G φ) (r:iP P G (stepOf N T b.toList Y) F H f) {K:Act→World→Prop}
 (q:∀g d e F' H',Ext φ H w g H' e→jd g F' d.tmps→d.tmps.size=c.tmps.size→d.defers=c.defers→f F' H'→K d e):wpOpIn (fw ro) nn P b Q a K c w:=by
 have s:Y∈b.toList:=er (by simpa using l);have t:=aoj (m Y s) i k;have x:∀ {n:Bool},(stepOf N T b.toList Y).want F=some n→Region.wanted Y (yielded b c.tmps)=n:=fun h=>arK (fun Y h=>by have:=m Y h;unfold mh at this;rw[cz]at this;exact this.1) i Y h
 refine acT l hT cA t x u k r ?_;intro v y g e H' j o p;exact q g _ e _ H' j ((i.mono j.le).put o) (yG _ _ _) (put_defers _ _ _) p
theorem aoA{d:Array Oper}{Q:Exit→Act→World→Prop}(hT:c4 P T)(cA:jo P N)(O:∀o∈d.toList,mh G a o=true):
 ∀(l:List Oper) (k:Nat) (φ:aO) (F:Fr) (H:ag) (b:Act) (w:World),(∀(j:Nat) (o:Oper),l[j]? =some o→d[k+j]? =some o)→b.tmps.size=a→Rel φ H w→jd φ F b.tmps→kn G φ→
  fZ P G (lmap (fun o=>b_.ex (stepOf N T d.toList o)) l) F H f→
  (∀i c g F' H',Ext φ H w i H' g→jd i F' c.tmps→c.tmps.size=a→c.defers=b.defers→f F' H'→Q .normal c g)→wpOpsIn (fw ro) nn P d Q (List.range' k l.length) b w:=by
 intro l;induction l with
 |nil=>
  intro k φ F H b w _ e t r s h q;exact q φ b w F H (Ext.refl t) r e rfl h
 |cons o l R=>
  intro k φ F H b w u e t r s h q;have L:iP P G (stepOf N T d.toList o) F H fun m n=>fZ P G (lmap (fun o=>b_.ex (stepOf N T d.toList o)) l) m n f:=h
  rw[di,List.range'_succ,wpOpsIn_cons];refine aqM (u 0 o aJ) hT cA (by rw[e];exact O) t r s L ?_;intro i c g m n p z A B C;refine R (k+1) i m n c g (fun j S M=>by have:=u (j+1) S (by simpa using M);rwa[(aa:k+(j+1)=k+1+j)]at this) (A.trans e) p.rel z (s.mono p.le) C ?_;intro V y U v x D E I J K;exact q V y U v x (p.trans D) E I (J.trans B) K
end
theorem x9(m i:Nat):ia m i=m.testBit i:=by
 unfold ia;rw[Nat.testBit_eq_decide_div_mod_eq,Bool.eq_iff_iff,beq_eq];have:Nat.shiftRight m i=m/2^i:=Nat.shiftRight_eq_div_pow m i;rw[this];simp;exact Iff.rfl
theorem aiZ(a b i:Nat):ia (Nat.lor a b) i=true↔ia a i=true∨ia b i=true:=by
 have e:Nat.lor a b=a|||b:=rfl
 rw[x9,x9,x9,e,Nat.testBit_or,pE]
theorem ai0(k i:Nat):ia (Nat.shiftLeft 1 k) i=true↔k=i:=by
 have e:Nat.shiftLeft 1 k=2^k:=Nat.one_shiftLeft k;rw[x9,e,Nat.testBit_two_pow];simp
theorem ZZ(i:Nat):ia 0 i=false:=by rw[x9];simp
theorem ann(b:List Nat)(c:List Edge)(j:Nat):ia (o4 b c) j=true↔∃e∈c,jQ e=true∧(e.on=j∨ia (ur 0 b e.on) j=true):=by
 induction c with
 |nil=>
  have:o4 b []=0:=rfl;rw[this,ZZ];simp
 |cons e c g=>
  have h:o4 b (e::c)=Bool.casesOn (motive:=fun _=>Nat) (jQ e) (o4 b c) (Nat.lor (o4 b c) (Nat.lor (Nat.shiftLeft 1 e.on) (ur 0 b e.on))):=rfl;rw[h];cases d:jQ e with
  |false=>
   simp only[g,gL];constructor
   ·rintro⟨x,h1,a⟩;exact⟨x,.inr h1,a⟩
   ·rintro⟨x,h1|h1,a⟩
    ·subst h1;rw[d]at a;cases a.1
    ·exact⟨x,h1,a⟩
  |true=>
   simp only[aiZ,ai0,g,gL];constructor
   ·rintro(⟨x,h1,a⟩|h1|h1)
    ·exact⟨x,.inr h1,a⟩
    ·exact⟨e,.inl rfl,d,.inl h1⟩
    ·exact⟨e,.inl rfl,d,.inr h1⟩
   ·rintro⟨x,h1|h1,a,f⟩
    ·subst h1;exact .inr f
    ·exact .inl ⟨x,h1,a,f⟩
theorem ano:∀(ops:List Oper) (a:List Nat),(masks ops a).length=a.length+ops.length∧(∀i,i<a.length→(masks ops a)[i]? =a[i]?)∧
 ∀(j:Nat) (o:Oper),ops[j]? =some o→(masks ops a)[a.length+j]? =some (o4 ((masks ops a).take (a.length+j)) o.after.toList):=by
 intro ops;induction ops with
 |nil=>
  intro a;have e:masks [] a=a:=rfl;rw[e];exact⟨aJ,fun _ _=>rfl,fun j o h=>by simp at h⟩
 |cons o ops m=>
  intro a;have e:masks (o::ops) a=masks ops (ez a [o4 a o.after.toList]):=rfl;rw[e,iV];obtain⟨f,b,g⟩:=m (a++[o4 a o.after.toList]);have k:(a++[o4 a o.after.toList]).length=a.length+1:=aJ;rw[k]at f b g;refine⟨by simp[f];omega,fun i c=>by rw[b i aa,k3 c],fun j n d=>?_⟩;cases j with
  |zero=>
   simp at d;subst d;have l:(masks ops (a++[o4 a o.after.toList])).take (a.length+0)=a:=by
    apply List.ext_getElem?;intro i;by_cases c:i<a.length
    ·rw[u9 aa,b i aa,k3 c]
    ·rw[m9 (by simp;omega),m9 aa]
   rw[l,cO,b _ aa];simp
  |succ j=>
   have:=g j n (by simpa using d);rw[(aa:a.length+(j+1)=a.length+1+j)];exact this
def maskAt(ops:List Oper)(i:Nat):Nat:=ur 0 (masks ops []) i
def Pred(ops:List Oper)(i j:Nat):Prop:=ia (maskAt ops i) j=true
theorem ag1:∀ {ops:List Oper}{k:Nat},lg ops k=true→∀(j:Nat) (o:Oper),ops[j]? =some o→∀e∈o.after.toList,jQ e=true→e.on<k+j:=by
 intro ops;induction ops with
 |nil=>intro k _ j o h;simp at h
 |cons o ops f=>
  intro k h j g b e d c;have a:and (kS (fun e=>or (!(jQ e)) (b8 (Nat.succ e.on) k)) o.after.toList) (lg ops (k+1))=true:=h;rw[cz]at a;cases j with
  |zero=>
   simp at b;subst b;have:=sw.1 a.1 e d;rw[c]at this;have i:=(eN _ _).1 (show b8 (Nat.succ e.on) k=true by simpa using this);omega
  |succ j=>
   have:=f a.2 j g (by simpa using b) e d c;omega
section
variable {ops:List Oper} (hE:lg ops 0=true)
include hE
theorem vP{i:Nat}{o:Oper}(c:ops[i]? =some o){e:Edge}(b:e∈o.after.toList)(a:jQ e=true):e.on<i:=by
 have:=ag1 hE i o c e b a;omega
theorem B8:Pred ops a g↔∃o,ops[a]? =some o∧∃e∈o.after.toList,jQ e=true∧(e.on=g∨Pred ops e.on g):=by
 obtain⟨j,k,i⟩:=ano ops [];simp only[lR,fB]at j i;unfold Pred maskAt;rw[uu];cases d:ops[a]? with
 |none=>
  have:(masks ops [])[a]? =none:=by
   rw[List.getElem?_eq_none_iff]at d⊢;omega
  rw[this];simp[ZZ]
 |some o=>
  rw[i a o d];simp only[Option.getD_some,ann,Option.some.injEq,exists_eq_left'];constructor
  ·rintro⟨e,c,b,h⟩;have f:=vP hE d c b;refine⟨e,c,b,h.imp id (fun h=>?_)⟩;rw[uu,u9 f]at h;rw[uu];exact h
  ·rintro⟨e,c,b,h⟩;have f:=vP hE d c b;refine⟨e,c,b,h.imp id (fun h=>?_)⟩;rw[uu,u9 f];rw[uu]at h;exact h
theorem pred_lt:∀ {i j:Nat},Pred ops i j→j<i:=by
 intro i;induction i using jb with
 |_ i f=>
  intro j h;obtain⟨o,c,e,b,a,h⟩:=(B8 hE).1 h;have d:=vP hE c b a;rcases h with h|h
  ·omega
  ·have:=f _ d h;omega
theorem JX:∀ {i j k:Nat},Pred ops i j→Pred ops j k→Pred ops i k:=by
 intro i;induction i using jb with
 |_ i g=>
  intro j k h a;obtain⟨o,d,e,c,b,h⟩:=(B8 hE).1 h;have f:=vP hE d c b;refine(B8 hE).2 ⟨o,d,e,c,b,.inr ?_⟩;rcases h with h|h
  ·rw[h];exact a
  ·exact g _ f h a
def C3(ops:List Oper)(L:Nat→Prop):Prop:=∀i o,L i→ops[i]? =some o→∀e∈o.after.toList,jQ e=true→L e.on
omit hE in
theorem Ii(hE:lg ops 0=true){L:Nat→Prop}(g:C3 ops L):∀ {i j:Nat},(∀o,ops[i]? =some o→∀e∈o.after.toList,jQ e=true→L e.on)→Pred ops i j→L j:=by
 intro i;induction i using jb with
 |_ i q=>
  intro j p h;obtain⟨o,c,e,b,a,h⟩:=(B8 hE).1 h;have m:=vP hE c b a;have d:=p o c e b a;rcases h with h|h
  ·rw[←h];exact d
  ·exact q _ m (fun r n f l k=>g _ r d n f l k) h
end
section
variable {N:eF}{T:cE}
theorem aoh{c:Fr}:∀ {l:List Operand}{b:List (Fr→V)},hL l=some b→(∀t,Operand.tmp t∈l→c.get V.undef t=o.get V.undef t)→vals b c=vals b o:=by
 intro l;induction l with
 |nil=>intro b h _;cases h;rfl
 |cons x l j=>
  intro b h d;obtain⟨f,a,h⟩:=aD.1 (show av (gQ x) (fun f=>av (hL l) fun r=>some (f::r))=some b from h);obtain⟨r,i,h⟩:=aD.1 h;cases h;have e:f c=f o:=by
   cases x with
   |tmp t=>cases a;exact d t aJ
   |const v=>
    obtain⟨y,k,a⟩:=aD.1 (show av (m0 20 v) (fun y=>some (fun _=>y))=some f from a);cases a;rfl
   |global g=>cases a;rfl
   |func g=>cases a;rfl
  show f c::vals r c=f o::vals r o;rw[e,j i (fun t h=>d t (by simp[h]))]
theorem uF{f:Fr→V}(h:gQ k=some f):hL [k]=some [f]:=by
 show av (gQ k) _=_;rw[h];rfl
def Looks(a:Op)(b:List (Fr→V)):Prop:=∃l,hL l=some b∧∀x∈l,x∈a.operands.toList
variable{C:List V→Option bx}
theorem ael{b:BinOp}{a:List (Fr→V)}(h:tu T b e t=.pu a C):a=t:=by
 unfold tu at h;split at h<;>(try split at h)<;>(try split at h)<;>first|(cases h;done)|(cases h;rfl)
theorem agj{d:TypeId}{a:List (Fr→V)}(h:oN T e d t=.pu a C):a=t:=by
 unfold oN at h;split at h<;>(try split at h)<;>first|(cases h;done)|(cases h;rfl)
theorem aeC{b:Builtin}{e:List TypeId}{c:List (Fr→V)}(h:xD T b e t=.pu c C):c=t:=by
 have a:=dD h aJ;obtain⟨j,g,a⟩:=aD.1 a;obtain⟨d,f,a⟩:=aD.1 a;cases b<;>simp only[reduceCtorEq]at a
 case append=>
  split at a
  ·obtain⟨i,_,a⟩:=aD.1 a;obtain⟨z,_,a⟩:=aD.1 a;obtain⟨k,_,a⟩:=aD.1 a;obtain⟨_,a⟩:=cS.1 a;cases z
   ·cases a
   ·cases a;rfl
  ·cases a
 case copy=>
  split at a
  ·obtain⟨s,_,a⟩:=aD.1 a;cases a
  ·cases a
 case cap=>split at a<;>cases a;rfl
 case len=>split at a<;>first|(cases a;done)|(cases a;rfl)
 case max=>cases a;rfl
 case min=>cases a;rfl
theorem wD{u:Op}(a:cop N T u=.pu t C):Looks u t:=by
 cases u<;>simp only[cop,reduceCtorEq]at a
 case move x|box j x|nilCheck x|extract x i=>
  obtain⟨f,e,a⟩:=aD.1 (dD a aJ);cases a;exact⟨_,uF e,by simp[Op.operands]⟩
 case pick c x y=>
  obtain⟨k,e,a⟩:=aD.1 (dD a aJ);cases a;exact⟨_,e,by simp[Op.operands]⟩
 case alloc j=>
  obtain⟨E,A,a⟩:=aD.1 (dD a aJ);cases a;exact⟨[],rfl,aJ⟩
 case build j parts=>
  have h:=dD a aJ;obtain⟨E,A,h⟩:=aD.1 h;obtain⟨d,o,h⟩:=aD.1 h;split at h
  ·obtain⟨V,S,h⟩:=aD.1 h;obtain⟨q,v,h⟩:=aD.1 h;cases h;exact⟨_,(wB v).2.2,by simp[Op.operands]⟩
  ·obtain⟨s,w,h⟩:=aD.1 h;obtain⟨q,v,h⟩:=aD.1 h;cases h;exact⟨_,(wB v).2.2,by simp[Op.operands]⟩
  ·cases h
 case buildSlice j n parts=>
  have h:=dD a aJ;obtain⟨d,o,h⟩:=aD.1 h;split at h
  ·obtain⟨s,w,h⟩:=aD.1 h;obtain⟨P,h⟩:=cS.1 h;obtain⟨E,A,h⟩:=aD.1 h;obtain⟨q,v,h⟩:=aD.1 h;obtain⟨U,h⟩:=cS.1 h;cases h;exact⟨_,(wB v).2.2,by simp[Op.operands]⟩
  ·cases h
 case binOp u j x y W=>
  obtain⟨k,e,a⟩:=aD.1 (dD a aJ);rw[ael (Option.some.inj a)];exact⟨_,e,by simp[Op.operands]⟩
 case unOp u j x=>
  obtain⟨f,e,a⟩:=aD.1 (dD a aJ);cases u<;>simp only[reduceCtorEq]at a
  all_goals
   cases a;exact⟨_,uF e,by simp[Op.operands]⟩
 case convert s d x=>
  obtain⟨f,e,a⟩:=aD.1 (dD a aJ);rw[agj (Option.some.inj a)];exact⟨_,uF e,by simp[Op.operands]⟩
 case makeFunc B first captured=>
  cases B<;>simp only[reduceCtorEq]at a;obtain⟨k,e,a⟩:=aD.1 (dD a aJ);cases a;exact⟨_,e,by rw[iV];simp[Op.operands]⟩
 case makeSlice j l c=>
  obtain⟨k,e,a⟩:=aD.1 (dD a aJ);obtain⟨d,o,a⟩:=aD.1 a;split at a
  ·obtain⟨i,z,a⟩:=aD.1 a;obtain⟨E,A,a⟩:=aD.1 a;obtain⟨w,a⟩:=cS.1 a;cases a;exact⟨_,e,by simp[Op.operands]⟩
  ·cases a
 case slice j x D z mx=>
  obtain⟨k,e,a⟩:=aD.1 (dD a aJ);obtain⟨d,o,a⟩:=aD.1 a;have r:∀y∈x::ez (nw D) (ez (nw z) (nw mx)),y∈(Op.slice j x D z mx).operands.toList:=by
   cases D<;>cases z<;>cases mx<;>simp[Op.operands,nw,iV]
  split at a
  ·cases a;exact⟨_,e,r⟩
  ·obtain⟨s,w,a⟩:=aD.1 a;cases a;exact⟨_,e,r⟩
  ·obtain⟨s,w,a⟩:=aD.1 a;cases a;exact⟨_,e,r⟩
  ·cases a
 case fieldAddr s x f=>
  obtain⟨p,e,a⟩:=aD.1 (dD a aJ);obtain⟨d,o,a⟩:=aD.1 a;split at a
  ·obtain⟨J,L,a⟩:=aD.1 a;obtain⟨n,Q,a⟩:=aD.1 a;obtain⟨A,a⟩:=cS.1 a;cases a;exact⟨_,uF e,by simp[Op.operands]⟩
  ·cases a
 case indexAddr j x i=>
  obtain⟨k,e,a⟩:=aD.1 (dD a aJ);obtain⟨d,o,a⟩:=aD.1 a;split at a
  rotate_right
  ·cases a
  all_goals
   obtain⟨s,w,a⟩:=aD.1 a;cases a;exact⟨_,e,by simp[Op.operands]⟩
 case index j x i=>
  obtain⟨k,e,a⟩:=aD.1 (dD a aJ);obtain⟨d,o,a⟩:=aD.1 a;split at a
  ·cases a;exact⟨_,e,by simp[Op.operands]⟩
  ·cases a
 case call c=>
  obtain⟨callee,F,I⟩:=c;have g:=dD a aJ;clear a;have r:∀y∈F.toList,y∈(Op.call ⟨callee,F,I⟩).operands.toList:=by
   intro y H;simp[Op.operands,Call.operands];exact .inr (by simpa using H)
  cases callee with
  |value x=>
   cases x<;>simp only[]at g
   case func f=>
    obtain⟨B,M,g⟩:=aD.1 g;obtain⟨k,e,g⟩:=aD.1 g;cases G:B.body with
    |some c=>rw[G]at g;cases g
    |none=>
     rw[G]at g;obtain⟨R,g⟩:=cS.1 g;obtain⟨K,O,g⟩:=aD.1 g;cases g;exact⟨_,e,r⟩
   all_goals exact dead g
  |invoke x m=>cases g
  |builtin b=>
   obtain⟨k,e,g⟩:=aD.1 g;rw[aeC (Option.some.inj g)];exact⟨_,e,r⟩
 all_goals exact dead a
end
section
variable {N:eF}{T:cE}
variable{R:List V→ag→Option V}
theorem abR{p:Op}(b:cop N T p=.rd t R):
 ∃l,hL l=some t∧(∀x∈l,x∈p.operands.toList)∧((∃k n,R=hH k n)∨R=rD∨(∃f z o,R=sy f z o)∨R=sx∨R=qU):=by
 cases p<;>simp only[cop,reduceCtorEq]at b
 case load q a=>
  obtain⟨f,j,b⟩:=aD.1 (dD b aJ);obtain⟨k,w,b⟩:=aD.1 b;obtain⟨n,y,b⟩:=aD.1 b;cases b;exact⟨[a],uF j,by simp[Op.operands],.inl ⟨k,n,rfl⟩⟩
 case convert s d x=>
  obtain⟨f,j,b⟩:=aD.1 (dD b aJ);have e:oN T s d [f]=.rd t R:=Option.some.inj b;unfold oN at e;split at e<;>first|(cases e;done)|skip
  ·split at e<;>cases e
  ·split at e
   ·cases e;exact⟨[x],uF j,by simp[Op.operands],.inr (.inl rfl)⟩
   ·cases e
 case call c=>
  obtain⟨callee,B,C⟩:=c;have h:=dD b aJ;clear b;cases callee with
  |value x=>cases x<;>simp only[]at h<;>exact dead h
  |invoke x m=>cases h
  |builtin bi=>
   obtain⟨r,u,h⟩:=aD.1 h;have g:=dD (Option.some.inj h) aJ;clear h;obtain⟨q,A,g⟩:=aD.1 g;obtain⟨d,v,g⟩:=aD.1 g;cases bi<;>simp only[reduceCtorEq]at g
   case len=>
    cases d<;>simp only[reduceCtorEq,Option.some.injEq,b4.rd.injEq]at g;obtain⟨rfl,rfl⟩:=g;exact⟨_,u,by simp[Op.operands,Call.operands],.inr (.inr (.inr (.inl rfl)))⟩
   all_goals exact dead g
 case lookup q x i o=>
  obtain⟨r,j,b⟩:=aD.1 (dD b aJ);obtain⟨d,_,b⟩:=aD.1 b;cases d<;>simp only[reduceCtorEq]at b;obtain⟨f,_,b⟩:=aD.1 b;obtain⟨_,_,b⟩:=aD.1 b;obtain⟨_,_,b⟩:=aD.1 b;obtain⟨z,_,b⟩:=aD.1 b;cases b;exact⟨_,j,by simp[Op.operands],.inr (.inr (.inl ⟨f,z,o,rfl⟩))⟩
 case entry x=>
  obtain⟨f,j,b⟩:=aD.1 (dD b aJ);cases b;exact⟨[x],uF j,by simp[Op.operands],.inr (.inr (.inr (.inr rfl)))⟩
 case makeFunc f _ _=>
  cases f<;>simp only[reduceCtorEq]at b;exact dead b
 all_goals exact dead b
theorem J7{a:Op}(d:cop N T a=.rd t R):Looks a t:=by
 obtain⟨l,b,c,_⟩:=abR d;exact⟨l,b,c⟩
theorem Yr(p:∀a,c.next≤a→c.get a=.none){d:eg}(h:c.cells? a=some b):(c.push d).cells? a=some b:=by
 obtain⟨g,f,o⟩:=cells?_some h;have i:∀ {x:Nat},c.get x≠ .none→c.next≠x:=fun{x} q e=>q (p x aa)
 have m:(c.push d).get a=.cells b g:=by rw[ag.bE,au (i (by rw[f];simp))];exact f
 have n:(c.push d).gh a g=true:=by
  rcases gi.1 o with e|⟨j,k,e,l⟩
  ·exact gi.2 (.inl e)
  ·exact gi.2 (.inr ⟨j,k,by rw[ag.bE,au (i (by rw[e];simp))];exact e,l⟩)
 unfold ag.cells?;rw[m];show bq ((c.push d).gh a g) (some b)=some b;rw[n];rfl
theorem apk{F:Op}(D:cop N T F=.rd t R)(u:∀a,c.next≤a→c.get a=.none){l:eg}{v:V}(h:R b c=some v):R b (c.push l)=some v:=by
 obtain⟨_,_,_,C⟩:=abR D;have A:∀ {x:Nat},c.get x≠ .none→c.next≠x:=fun{x} E e=>E (u x aa)
 have r:∀ {a:Nat}{g:List (V×V)},c.iG a=some g→(c.push l).iG a=some g:=by
  intro a g h;have i:=Jr h;unfold ag.iG;rw[ag.bE,au (A (by rw[i];simp)),i]
 have cA:∀ {a o n:Nat}{w:List V},c.dw a o n=some w→(c.push l).dw a o n=some w:=by
  intro a o n w h;obtain⟨j,i,p⟩:=aD.1 h;exact aD.2 ⟨j,Yr u i,p⟩
 have i:∀ {a o:Nat}{v:V},c.load a o=some v→(c.push l).load a o=some v:=by
  intro a o v h;obtain⟨j,i,p⟩:=aD.1 h;exact aD.2 ⟨j,Yr u i,p⟩
 rcases C with⟨B,n,rfl⟩|rfl|⟨f,z,H,rfl⟩|rfl|rfl
 ·unfold hH at h⊢;split at h
  ·cases B with
   |false=>exact i h
   |true=>
    obtain⟨j,k,d⟩:=aD.1 h;exact aD.2 ⟨j,cA k,d⟩
  ·exact h
  ·cases h
 ·unfold rD at h⊢;split at h
  ·exact h
  ·exact h
  ·obtain⟨j,k,d⟩:=aD.1 h;exact aD.2 ⟨j,cA k,d⟩
  ·exact h
  ·cases h
 ·unfold sy at h⊢;split at h
  ·obtain⟨q,k,h⟩:=aD.1 h;refine aD.2 ⟨q,k,?_⟩;split at h
   ·exact h
   ·obtain⟨g,d,h⟩:=aD.1 h;exact aD.2 ⟨g,r d,h⟩
   ·cases h
  ·cases h
 ·unfold sx at h⊢;split at h
  ·exact h
  ·obtain⟨g,d,h⟩:=aD.1 h;exact aD.2 ⟨g,r d,h⟩
  ·cases h
 ·unfold qU at h⊢;split at h
  ·split at h
   ·rename_i a m s seen G y;rw[ag.bE,au (A (by rw[y];simp)),y];obtain⟨g,d,h⟩:=aD.1 h;exact aD.2 ⟨g,r d,h⟩
   ·cases h
  ·cases h
end
section
variable {N:eF}{T:cE}{ol:List Oper}{B:Nat}
def j0(N:eF)(T:cE)(ol:List Oper)(B:Nat)(o:Oper)(F:Fr)(H:ag)(d:aO):Prop:=
 ∃t,o.dst=some t∧
 ((kZ ol o.guard F=some false∧F.get V.undef t=V.undef)∨
  (kZ ol o.guard F=some true∧∃a g r,cop N T o.op=.pu a g∧g (vals a F)=some r∧
    ((∃v,r=.val v∧F.get V.undef t=v)∨(∃b c id,r=.new b c∧F.get V.undef t=c.mk id∧H.get id=.cells b 0∧d id=none∧id<H.next∧B≤id)))∨
  (kZ ol o.guard F=some true∧∃a g,cop N T o.op=.rd a g∧g (vals a F) H=some (F.get V.undef t)))
theorem amC{f:h→Bool}{l:List h}:ye f l=true↔∃x∈l,f x=true:=by
 induction l with
 |nil=>simp[ye]
 |cons a l b=>
  have e:ye f (a::l)=or (f a) (ye f l):=rfl;rw[e,pE,b];simp
theorem uE:B3 a j=true↔j=some a:=by
 cases j with
 |none=>simp[B3]
 |some u=>exact⟨fun h=>by rw[(beq_eq _ _).1 h],fun h=>by cases h;exact(beq_eq _ _).2 rfl⟩
variable{Y:Oper}
theorem abW(h:Operand.tmp a∈Y.op.operands.toList):reads ol Y a=true:=by
 unfold reads;rw[pE];exact .inl (amC.2 ⟨_,h,(beq_eq _ _).2 rfl⟩)
theorem s3{a:Fr}(h:∀t,reads ol Y t=true→a.get V.undef t=o.get V.undef t):kZ ol Y.guard a=kZ ol Y.guard o:=by
 unfold kZ;cases f:Y.guard with
 |none=>rfl
 |some c=>
  obtain⟨j,b⟩:=c;simp only[];cases d:vM ol j with
  |none=>rfl
  |some t=>
   have:reads ol Y t=true:=by
    unfold reads;rw[pE,f];exact .inr (by simp only[d];exact uE.2 rfl)
   have e:bM.kP V.undef (path t) a=bM.kP V.undef (path t) o:=h t this
   dsimp only
   rw[e]
theorem q8(e:Looks Y.op t){b:Fr}(h:∀a,reads ol Y a=true→b.get V.undef a=o.get V.undef a):vals t b=vals t o:=by
 obtain⟨l,c,d⟩:=e;exact aoh c (fun a f=>h a (abW (d _ f)))
theorem j0.keep{f:Fr}{u:aO}(l:j0 N T ol B Y o c n)(s:∀t,kh ol Y t=true→f.get V.undef t=o.get V.undef t)
 (F:∀id e,c.get id=.cells e 0→n id=none→id<c.next→J.get id=.cells e 0∧u id=none∧id<J.next)
 (G:∀b g v,cop N T Y.op=.rd b g→kZ ol Y.guard o=some true→g (vals b o) c=some v→o.get V.undef (Y.dst.getD 0)=v→g (vals b o) J=some v):j0 N T ol B Y f J u:=by
 obtain⟨t,p,l⟩:=l;have m:∀t,reads ol Y t=true→f.get V.undef t=o.get V.undef t:=fun t h=>s t (by unfold kh;rw[h];simp)
 have i:f.get V.undef t=o.get V.undef t:=s t (by unfold kh;rw[uE.2 p];rfl);have q:=s3 m;refine⟨t,p,?_⟩;rcases l with⟨d,a⟩|⟨d,b,g,r,a,j,z⟩|⟨d,b,g,a,j⟩
 ·exact .inl ⟨q.trans d,i.trans a⟩
 ·refine .inr (.inl ⟨q.trans d,b,g,r,a,?_,?_⟩)
  ·rw[q8 (wD a) m];exact j
  ·rcases z with⟨v,rfl,k⟩|⟨e,H,id,rfl,k,A,C,D,E⟩
   ·exact .inl ⟨v,rfl,i.trans k⟩
   ·obtain⟨w,x,y⟩:=F id e A C D;exact .inr ⟨e,H,id,rfl,i.trans k,w,x,y,E⟩
 ·refine .inr (.inr ⟨q.trans d,b,g,a,?_⟩);rw[q8 (J7 a) m,i];exact G b g _ a d j (by rw[p];rfl)
theorem nB(F:Fr)(t u:Nat)(v:V):(put F (some t) v).get V.undef u=if t=u then v else F.get V.undef u:=bM.a_ V.undef F t u v
theorem j0.first{cf:jl}(y:Y.dst=some a)(s:oW (cop N T Y.op)=false)(H:reads ol Y a=false){n:Fr}{φ:aO}(I:∀b,c.next≤b→φ b=none)(F:B≤c.next)
 (h:exec cf (stepOf N T ol Y) o c=some (n,J)):
 j0 N T ol B Y n J φ∧(∀u,u≠a→n.get V.undef u=o.get V.undef u)∧(J=c∨∃i,J=c.push (.cells i 0))∧(∀d g i l,kZ ol Y.guard n=some true→cop N T Y.op=.pu d g→g (vals d n)=some (.new i l)→n.get V.undef a=Shape.mk l c.next):=by
 unfold exec at h;have j:∀ {v:V} u,reads ol Y u=true→(put o (some a) v).get V.undef u=o.get V.undef u:=by
  intro v u k;rw[nB,au];intro e;subst e;rw[H]at k;cases k
 have G:(stepOf N T ol Y).dst=some a:=y;rw[G]at h;have K:(stepOf N T ol Y).want o=kZ ol Y.guard o:=rfl;rw[K]at h;cases m:kZ ol Y.guard o with
 |none=>rw[m]at h;cases h
 |some L=>
 cases L with
 |false=>
  rw[m]at h;cases h;exact⟨⟨a,y,.inl ⟨(s3 j).trans m,by rw[nB,ay rfl]⟩⟩,fun u k=>by rw[nB,au (fun e=>k e.symm)],.inl rfl,fun d g i l C _ _=>by rw[s3 j,m]at C;cases C⟩
 |true=>
  rw[m]at h
  have p:(match cop N T Y.op with
   |.bad=>aW
   |.pu d g=>av (g (vals d o)) fun r=>bx.casesOn (motive:=fun _=>Option (Fr×ag)) r (fun v=>some (put o (some a) v,c)) (fun i l=>some (put o (some a) (l.mk c.next),c.push (.cells i 0)))
   |.rd d g=>av (g (vals d o) c) fun v=>some (put o (some a) v,c)
   |.gb d g=>av (g (vals d o) c) fun r=>some (put o (some a) r.1,r.2)
   |.call d g=>av (g (vals d o)) fun A=>av (cf A.1 A.2 c) fun r=>some (put o (some a) r.1,r.2)
   |.lF _=>aW)=some (n,J):=h
  cases f:cop N T Y.op with
  |bad=>rw[f]at p;cases p
  |gb d g=>rw[f]at s;cases s
  |call d g=>rw[f]at s;cases s
  |lF x=>rw[f]at s;cases s
  |pu d g=>
   rw[f]at p;obtain⟨r,q,z⟩:=aD.1 p;cases r with
   |val v=>
    cases z;refine⟨⟨a,y,.inr (.inl ⟨(s3 j).trans m,d,g,.val v,f,by rw[q8 (wD f) j];exact q,.inl ⟨v,rfl,by rw[nB,ay rfl]⟩⟩)⟩,fun u k=>by rw[nB,au (fun e=>k e.symm)],.inl rfl,fun E D i l _ t w=>by
     cases t;rw[q8 (wD f) j,q]at w;cases w⟩
   |new i l=>
    cases z
    refine⟨⟨a,y,.inr (.inl ⟨(s3 j).trans m,d,g,.new i l,f,by rw[q8 (wD f) j];exact q,.inr ⟨i,l,c.next,rfl,by rw[nB,ay rfl],by rw[ag.bE,ay rfl],I _ (aR _),by show c.next<c.next+1;omega,F⟩⟩)⟩,
     fun u k=>by rw[nB,au (fun e=>k e.symm)],.inr ⟨i,rfl⟩,fun E D M O _ t w=>by
      cases t;rw[q8 (wD f) j,q]at w;cases w;rw[nB,ay rfl]⟩
  |rd d g=>
   rw[f]at p;obtain⟨v,q,z⟩:=aD.1 p;cases z;refine⟨⟨a,y,.inr (.inr ⟨(s3 j).trans m,d,g,f,by rw[q8 (J7 f) j,nB,ay rfl];exact q⟩)⟩,fun u k=>by rw[nB,au (fun e=>k e.symm)],.inl rfl,fun E D i l _ t _=>by cases t⟩
end
section
variable {N:eF}{T:cE}{ol:List Oper}{B:Nat}{cf:jl}
theorem Rel.ajg(a:Rel n c q):∀b,c.next≤b→c.get b=.none:=fun _ h=>(a.top h).2
def qK(N:eF)(T:cE)(ol:List Oper)(o:Oper)(F:Fr)(id:Nat):Prop:=
 ∃t b g c a,o.dst=some t∧kZ ol o.guard F=some true∧cop N T o.op=.pu b g∧g (vals b F)=some (.new c a)∧F.get V.undef t=Shape.mk a id
def zj(N:eF)(T:cE)(ol:List Oper)(D:Oper→Prop)(F:Fr):Prop:=∀x y,D x→D y→∀id,qK N T ol x F id→qK N T ol y F id→x=y
theorem mk_inj{s b:Shape}(h:s.mk a=b.mk g):a=g:=by
 cases s<;>cases b<;>simp only[Shape.mk]at h<;>cases h<;>rfl
variable{Y:Oper}
theorem qK.congr{a:Fr}{id:Nat}(h:qK N T ol Y a id)(d:∀t,kh ol Y t=true→a.get V.undef t=o.get V.undef t):qK N T ol Y o id:=by
 obtain⟨t,n,g,f,m,b,i,c,j,k⟩:=h;have e:∀t,reads ol Y t=true→a.get V.undef t=o.get V.undef t:=fun t h=>d t (by unfold kh;rw[h];simp)
 have l:a.get V.undef t=o.get V.undef t:=d t (by unfold kh;rw[uE.2 b];rfl);refine⟨t,n,g,f,m,b,(s3 e).symm.trans i,c,?_,l.symm.trans k⟩;rw[←q8 (wD c) e];exact j
theorem qK.lt{id:Nat}(h:qK N T ol Y o id)(b:j0 N T ol B Y o c n):id<c.next:=by
 obtain⟨t,F,g,y,C,q,s,k,u,w⟩:=h;obtain⟨E,j,b⟩:=b;rw[q]at j;cases j;rcases b with⟨d,_⟩|⟨_,x,p,r,a,f,l⟩|⟨_,x,p,a,_⟩
 ·rw[s]at d;cases d
 ·rw[k]at a;cases a;rw[u]at f;cases f;rcases l with⟨v,e,_⟩|⟨z,D,A,e,i,_,_,m,_⟩
  ·cases e
  ·cases e;rw[w]at i;rw[mk_inj i];exact m
 ·rw[k]at a;cases a
theorem acQ{φ:aO}{w:World}(a:List Info):∀(F:Fr) (H:ag) (k:Fr) (f:ag) (D:Oper→Prop),
 (∀u∈a,u.s=stepOf N T ol u.o∧oW (cop N T u.o.op)=false∧∃t,u.o.dst=some t∧reads ol u.o t=false)→
 (∀x u,D x→u∈a→∀t,u.o.dst=some t→kh ol x t=false)→
 a.Pairwise (fun u1 u2=>∀t,u2.o.dst=some t→kh ol u1.o t=false)→
 Rel φ H w→B≤H.next→(∀x,D x→j0 N T ol B x F H φ)→zj N T ol D F→rm cf (lmap (fun i=>b_.ex i.s) a) F H=some (k,f)→
 Rel φ f w∧(∀x,D x→j0 N T ol B x k f φ)∧(∀u∈a,j0 N T ol B u.o k f φ)∧(∀t,(∀u∈a,u.o.dst≠some t)→k.get V.undef t=F.get V.undef t)∧H.next≤f.next∧(∀b,b<H.next→f.get b=H.get b)∧
 zj N T ol (fun x=>D x∨∃u∈a,x=u.o) k:=by
 induction a with
 |nil=>
  intro F H k f D _ _ _ p _ E P h;cases h;refine⟨p,E,aJ,fun _ _=>rfl,aR _,fun _ _=>rfl,?_⟩;rintro x y (M|⟨u,I,_⟩) (hy|⟨v,hv,_⟩) id
  ·exact P x y M hy id
  ·cases hv
  ·cases I
  ·cases I
 |cons u a ih=>
  intro F H k f D I M X p hB E P h;obtain⟨⟨A,C⟩,S,h2⟩:=aD.1 (show av (exec cf u.s F H) (fun r=>rm cf (lmap (fun i=>b_.ex i.s) a) r.1 r.2)=some (k,f)from h);obtain⟨j,hE,t,L,a0⟩:=I u aJ;rw[j]at S;obtain⟨p1,Y,O,a5⟩:=j0.first (B:=B) L hE a0 (φ:=φ) (fun b K=>(p.top K).1) hB S
  have aw:Rel φ C w:=by
   rcases O with rfl|⟨l,rfl⟩
   ·exact p
   ·exact ab0 p
  have bd:H.next≤C.next:=by
   rcases O with rfl|⟨l,rfl⟩
   ·exact aR _
   ·show H.next≤H.next+1;omega
  have U:∀b,b<H.next→C.get b=H.get b:=by
   intro b K;rcases O with rfl|⟨l,rfl⟩
   ·rfl
   ·rw[ag.bE,au aa]
  have G:∀x,D x→∀d,kh ol x d=true→A.get V.undef d=F.get V.undef d:=by
   intro x c d j;refine Y d (fun e=>?_);have:=M x u c aJ t L;rw[e,this]at j;cases j
  have am:∀x,(D x∨x=u.o)→j0 N T ol B x A C φ:=by
   rintro x (c|rfl)
   ·refine(E x c).keep (G x c) (fun id l m J n=>⟨by rw[U id n];exact m,J,aa⟩) (fun xs g v m J n _=>?_);rcases O with rfl|⟨l,rfl⟩
    ·exact n
    ·exact apk m p.ajg n
   ·exact p1
  have W:∀id,qK N T ol u.o A id→H.next≤id:=by
   intro id ⟨t',xs,g,l,sh,m,J,n,ac,ad⟩;rw[L]at m;cases m;have:=a5 xs g l sh J n ac;rw[ad]at this;exact Nat.le_of_eq (mk_inj this).symm
  have ar:zj N T ol (fun x=>D x∨x=u.o) A:=by
   rintro x y (c|rfl) (q|rfl) id Q R
   ·exact P x y c q id (Q.congr (G x c)) (R.congr (G y q))
   ·have:=(Q.congr (G x c)).lt (E x c);have:=W id R;omega
   ·have:=(R.congr (G y q)).lt (E y q);have:=W id Q;omega
   ·rfl
  obtain⟨q1,Z,a7,a8,be,a9,a'⟩:=ih A C k f (fun x=>D x∨x=u.o) (fun v hv=>I v (by simp[hv])) (fun x v a1 hv d j=>by
   rcases a1 with h|rfl
   ·exact M x v h (by simp[hv]) d j
   ·exact(rM.1 X).1 v hv d j) (rM.1 X).2 aw aa am ar h2
  refine⟨q1,fun x h=>Z x (.inl h),fun v hv=>?_,fun d j=>?_,aa,fun b K=>by rw[a9 b aa,U b K],?_⟩
  ·rcases gL.1 hv with rfl|hv
   ·exact Z _ (.inr rfl)
   ·exact a7 v hv
  ·rw[a8 d (fun v hv=>j v (by simp[hv])),Y d (fun e=>j u aJ (by rw[e];exact L))]
  ·intro x y c q;have conv:∀z,(D z∨∃v∈u::a,z=v.o)→((D z∨z=u.o)∨∃v∈a,z=v.o):=by
    rintro z (h|⟨v,hv,rfl⟩)
    ·exact .inl (.inl h)
    ·rcases gL.1 hv with rfl|hv
     ·exact .inl (.inr rfl)
     ·exact .inr ⟨v,hv,rfl⟩
   exact a' x y (conv x c) (conv y q)
theorem Zc{e:aO}{a:ag}{w:World}(h:Ext n c q e J w)(p:Rel e a w)(hn:J.next≤a.next)(g:∀b,b<J.next→a.get b=J.get b):Ext n c q e a w:=
 ⟨p,h.le,h.fresh,fun d m o=>by rw[g _ (ei d h.next)];exact h.mQ d m o,cI h.next hn,h.kR,h.size,h.same,fun{b l} f i=>let⟨j,k⟩:=h.iU f i;⟨by rw[g b (rQ fun d=>by have:=h.le b l f;rw[(h.rel.top d).1]at this;cases this)];exact j,k⟩,h.l6⟩
theorem ahr{j:aO}{w p:World}(h:Ext n c q j J w)(u:J.get a=.cells b 0)(o:j a=none)(v:a<J.next)(t:c.next≤a)(f:rS j (.cells b 0) g w p):
 Ext n c q (j.add a ⟨w.heap.size,0,g⟩) J p:=by
 refine⟨abZ h.rel u o v f,aO.le_trans h.le (aO.um o),?_,h.mQ,h.next,?_,by rw[f.size];have:=h.size;omega,h.same.trans f.same,fun{a l} i d=>let⟨r,s⟩:=h.iU i d;⟨r,(f.old l.c (h.rel.loc (h.le a l i))).trans s⟩,fun k x e=>h.l6 k x e⟩
 ·intro x l i d;rw[aO.add_get]at d;split at d
  ·rename_i e;subst e;cases d;exact⟨t,.inl h.size⟩
  ·exact h.fresh i d
 ·intro k m y;rw[f.old k (ei m h.size)];exact h.kR m y
end
theorem uq(f:h→Bool)(l:List h):kB f l=l.filter f:=by
 induction l with
 |nil=>rfl
 |cons a l c=>
  have e:kB f (a::l)=Bool.casesOn (motive:=fun _=>List h) (f a) (kB f l) (a::kB f l):=rfl;rw[e,c];cases b:f a<;>simp[b]
section
variable {N:eF}{T:cE}
def mkInfo(N:eF)(T:cE)(a:List Oper)(i:Nat)(o:Oper):Info:=⟨i,o,maskAt a i,stepOf N T a o,oW (cop N T o.op)⟩
theorem ajv{a:List Oper}:∀(l:List Oper) (ms:List Nat) (k i:Nat),(infos N T a l ms k)[i]? =(l[i]?).map (fun o=>⟨k+i,o,(ms[i]?).getD 0,stepOf N T a o,oW (cop N T o.op)⟩):=by
 intro l;induction l with
 |nil=>intro ms k i;rfl
 |cons o l c=>
  intro ms k i;have e:infos N T a (o::l) ms k=⟨k,o,ur 0 ms 0,stepOf N T a o,oW (cop N T o.op)⟩::infos N T a l (eA ms 1) (k+1):=rfl;rw[e];cases i with
  |zero=>simp[uu]
  |succ i=>
   rw[List.getElem?_cons_succ,c,jT,List.getElem?_cons_succ];have b:k+1+i=k+(i+1):=aa;simp[b]
def dn(N:eF)(T:cE)(a:List Oper):List Info:=infos N T a a (masks a []) 0
theorem zw(a:List Oper)(i:Nat):(dn N T a)[i]? =(a[i]?).map (mkInfo N T a i):=by
 unfold dn;rw[ajv];congr 1;funext o;simp[mkInfo,maskAt,uu]
theorem oK{b:List Oper}{x:Info}:x∈dn N T b↔∃i o,b[i]? =some o∧x=mkInfo N T b i o:=by
 rw[List.mem_iff_getElem?];constructor
 ·rintro⟨i,h⟩;rw[zw]at h;obtain⟨o,a,c⟩:=Option.map_eq_some_iff.1 h;exact⟨i,o,a,c.symm⟩
 ·rintro⟨i,o,a,rfl⟩;exact⟨i,by rw[zw,a];rfl⟩
theorem Ly(c:List Oper):(dn N T c).Pairwise (fun a b=>a.ix<b.ix):=by
 rw[List.pairwise_iff_getElem];intro i j h l k;have d:=zw (N:=N) (T:=T) c i;have e:=zw (N:=N) (T:=T) c j;rw[cH h]at d;rw[cH l]at e;obtain⟨m,_,f⟩:=Option.map_eq_some_iff.1 d.symm;obtain⟨n,_,g⟩:=Option.map_eq_some_iff.1 e.symm;rw[←f,←g];exact k
theorem pW{b:List Oper}{x y:Info}(d:x∈dn N T b)(f:y∈dn N T b)(h:x.ix=y.ix):x=y:=by
 obtain⟨i,o,c,rfl⟩:=oK.1 d;obtain⟨j,g,a,rfl⟩:=oK.1 f;have e:i=j:=h;subst e;rw[c]at a;cases a;rfl
theorem afX{d:List Oper}(j:lg d 0=true):∀ {l:List Info},(∀x∈l,x.mask=maskAt d x.ix)→A7 l=true→l.Pairwise (fun a b=>Pred d b.ix a.ix):=by
 intro l;induction l with
 |nil=>intro _ _;exact .nil
 |cons a l m=>
  intro g h;have e:and (A7 l) (List.casesOn (motive:=fun _=>Bool) l true (fun b _=>ia b.mask a.ix))=true:=h;rw[cz]at e;have i:=m (fun x k=>g x (by simp[k])) e.1;refine rM.2 ⟨?_,i⟩;cases l with
  |nil=>simp
  |cons b l=>
   have f:Pred d b.ix a.ix:=by
    unfold Pred;rw[←g b aJ];exact e.2
   intro c hc;rcases gL.1 hc with rfl|hc
   ·exact f
   ·exact JX j ((rM.1 i).1 c hc) f
theorem agn(a:List Info)(m:Nat):mL a m=(a.filter (fun e=>ia m e.ix)).length:=by
 induction a with
 |nil=>rfl
 |cons e a c=>
  have h:mL (e::a) m=Bool.casesOn (motive:=fun _=>Nat) (ia m e.ix) (mL a m) (Nat.succ (mL a m)):=rfl;rw[h,c];cases b:ia m e.ix<;>simp[b]
def pS(a:List Oper)(x:Info)(r:List Info):Prop:=∀e∈r,¬Pred a x.ix e.ix
theorem Kv{c:List Oper}(j:lg c 0=true){done r:List Info}(k:(done++r).Pairwise (fun a b=>Pred c b.ix a.ix)){x:Info}(m:x.mask=maskAt c x.ix):mL (done++r) x.mask≤done.length↔pS c x r:=by
 rw[agn,m,List.filter_append,bt];constructor
 ·intro h e f g;have i:done.filter (fun e=>ia (maskAt c x.ix) e.ix)=done:=by
   rw[List.filter_eq_self];intro d i;exact JX j g ((List.pairwise_append.1 k).2.2 d i e f)
  rw[i]at h;have:0<(r.filter (fun e=>ia (maskAt c x.ix) e.ix)).length:=List.length_pos_of_mem (nJ.2 ⟨f,g⟩);omega
 ·intro h;have l:r.filter (fun e=>ia (maskAt c x.ix) e.ix)=[]:=by
   rw[List.filter_eq_nil_iff];intro e f g;exact h e f g
  rw[l];have:=List.length_filter_le (fun e:Info=>ia (maskAt c x.ix) e.ix) done;simpa using this
theorem pq{a:List Oper}(h:rC a (dn N T a)=true){k:Info}(d:k∈dn N T a):
 (k.o.dst=none→k.gH=true)∧∀t,k.o.dst=some t→(k.gH=true∨reads a k.o t=false)∧∀i∈dn N T a,i.ix=k.ix∨kh a i.o t=false∨Pred a i.ix k.ix∨(k.gH=true∧Pred a k.ix i.ix):=by
 have b:=sw.1 h k d;have e:∀i∈dn N T a,i.mask=maskAt a i.ix:=by
  intro i c;obtain⟨j,l,_,rfl⟩:=oK.1 c;rfl
 constructor
 ·intro f;rw[f]at b;exact b
 ·intro t g;rw[g]at b;simp only[cz,pE,Bool.not_eq_true']at b;refine⟨b.1,fun i c=>?_⟩;have h2:=sw.1 b.2 i c;simp only[cz,pE,Bool.not_eq_true',beq_eq]at h2;rcases h2 with h2|h2|h2|h2
  ·exact .inl h2
  ·exact .inr (.inl h2)
  ·exact .inr (.inr (.inl (by unfold Pred;rw[←e i c];exact h2)))
  ·exact .inr (.inr (.inr ⟨h2.1,by unfold Pred;rw[←e k d];exact h2.2⟩))
end
end Go.aE
