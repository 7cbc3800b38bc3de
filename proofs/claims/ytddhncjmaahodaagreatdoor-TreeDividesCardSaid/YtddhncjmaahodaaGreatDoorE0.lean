/- Towards the law TreeDivides: lemmas on the evaluator of the model's code, plain laws of numbers, walks of the program's functions, the card. No conditions. -/
import Derived.Calls
import Derived.Orders
import Derived.Laws.Cells
import Derived.Laws.IdiomCopy
import Derived.Laws.StructEq
import Derived.Laws.Strings
import Derived.Laws.Concat
import Derived.Laws.World
import Derived.Laws.NewBlocks
import Derived.Laws.IdiomStrings
import Derived.KernelRfl
import Derived.Lib.Bytealg
import Derived.Laws.NewFold
import Derived.OrdersIn
import Derived.RangeFuncLeaves
set_option linter.all false
noncomputable section
open Array renaming ext'→uM
open Bool renaming and_eq_true→cC,eq_false_iff→lq,false_eq_true→iM,not_false→je,not_true→fX,or_eq_true→tq
open Go.Instr renaming sliceBounds→r5,sureAddr→wv
open Go.IntKind renaming bits→p5,signed→p6,wrap→r6
open Go.Result renaming andThen_ok→eH
open Go.Sem renaming run_bind→eg,run_pure→fZ
open Int renaming natCast_mul→fY,natCast_nonneg→uP,tdiv→lO,tmod→mZ,toNat_natCast→bH
open List renaming eq_nil_of_length_eq_zero→oP,ext_getElem?→uQ,getElem?_append_left→p8,getElem?_append_right→tv,getElem?_drop→uR,getElem?_eq_getElem→cx,getElem?_eq_some_iff→gZ,getElem?_set→r7,length_append→aV,length_cons→cV,length_drop→g5,length_nil→kS,length_take→dP,mem_cons→jr,mem_filter→p9,mem_of_getElem?→eN,pairwise_append→wD,pairwise_cons→tA,range'→tB,range→p_,take_succ_eq_append_getElem→kU
open Nat renaming add_assoc→mo,add_comm→js,add_mul→eu,add_zero→cG,add→gF,beq→bn,ble→bL,eq_zero_or_pos→r_,le_add_right→sg,le_of_ble_eq_true→kV,le_of_lt→hO,le_of_not_lt→jW,le_refl→aF,le_trans→cH,lt_of_lt_of_le→eF,lt_of_not_le→tF,lt_or_ge→oe,lt_trans→qg,min_eq_left→m4,mod_eq_of_lt→kf,mod_lt→eX,mul_le_mul_right→ee,mul→eM,strongRecOn→jG,sub_self→m6,sub→jv,succ_mul→oR,zero_add→eJ,zero_le→b4,zero_mul→jg
open Option renaming none→aJ
open UInt8 renaming ofNat→g6,toNat_inj→wN
namespace Go
theorem aa{p:Prop}(h:p:=by omega):p:=h
theorem ag{p:Prop}(h:p:=by decide):p:=h
theorem aE{p:Prop}(h:p:=by simp):p:=h
theorem a_{p:Prop}[Decidable p](h:¬p):decide p=false:=decide_eq_false h
theorem bm{p:Prop}[Decidable p](h:p):decide p=true:=decide_eq_true h
theorem aj{c:Prop}{h:Decidable c}(n:¬c){a:Sort _}{t e:a}:ite c t e=e:=if_neg n
theorem ao{c:Prop}{h:Decidable c}(n:c){a:Sort _}{t e:a}:ite c t e=t:=if_pos n
end Go
namespace Go.au
inductive aN (α:Type) where
 |nil
 |node (l:aN α) (v:α) (r:aN α)
def GR(f:Nat):Nat→List Bool:=
 Nat.rec (motive:=fun _=>Nat→List Bool) (fun _=>[]) (fun _ a n=>Nat.rec (motive:=fun _=>List Bool) [] (fun m _=>(bn (Nat.mod m 2) 1)::a (Nat.div m 2)) n) f
def path(n:Nat):List Bool:=GR n n
def Ia:List Bool→Nat
 |[]=>0
 |b::p=>2*Ia p+(if b then 1 else 0)+1
theorem Sb(f:Nat):∀n,n≤f→Ia (GR f n)=n:=by
 induction f with
 |zero=>intro n h;have:n=0:=aa;subst this;rfl
 |succ f a=>
  intro n h;cases n with
  |zero=>rfl
  |succ m=>
   show 2*Ia (GR f (m/2))+(if bn (m%2) 1 then 1 else 0)+1=m+1;rw[a (m/2) aa];rcases Nat.mod_two_eq_zero_or_one m with h|h<;>simp[h,bn]<;>omega
variable{h:Nat}
theorem aoh{a:Nat}(b:path a=path h):a=h:=by
 have c:=Sb a a (aF _);have d:=Sb h h (aF _);unfold path at b;rw[←c,←d,b]
variable{f:Type}
def aN.lW(d:f)(p:List Bool):aN f→f:=
 List.rec (motive:=fun _=>aN f→f) (fun t=>aN.casesOn t d (fun _ v _=>v))
  (fun b _ a t=>aN.casesOn t d (fun l _ r=>Bool.casesOn b (a l) (a r))) p
def aN.xY(d x:f)(p:List Bool):aN f→aN f:=
 List.rec (motive:=fun _=>aN f→aN f) (fun t=>aN.casesOn t (.node .nil x .nil) (fun l _ r=>.node l x r))
  (fun b _ a t=>aN.casesOn t (Bool.casesOn b (.node (a .nil) d .nil) (.node .nil d (a .nil)))
    (fun l v r=>Bool.casesOn b (.node (a l) v r) (.node l v (a r)))) p
theorem aN.xq(d:f)(p:List Bool):aN.lW d p .nil=d:=by cases p<;>rfl
theorem aN.ah0(d x:f)(p:List Bool):∀t,aN.lW d p (aN.xY d x p t)=x:=by
 induction p with
 |nil=>intro t;cases t<;>rfl
 |cons b p a=>intro t;cases t<;>cases b<;>exact a _
theorem aN.ah1(d x:f)(p:List Bool):∀(q:List Bool) t,q≠p→aN.lW d q (aN.xY d x p t)=aN.lW d q t:=by
 induction p with
 |nil=>
  intro q t a;cases q with
  |nil=>exact absurd rfl a
  |cons b q=>
   cases t with
   |nil=>cases b<;>exact aN.xq d q
   |node l v r=>cases b<;>rfl
 |cons c p e=>
  intro q t a;cases q with
  |nil=>cases t<;>cases c<;>rfl
  |cons b q=>
   cases t with
   |nil=>
    cases b<;>cases c
    ·exact(e q .nil (fun h=>a (by rw[h]))).trans (aN.xq d q)
    ·exact aN.xq d q
    ·exact aN.xq d q
    ·exact(e q .nil (fun h=>a (by rw[h]))).trans (aN.xq d q)
   |node l v r=>
    cases b<;>cases c
    ·exact e q l (fun h=>a (by rw[h]))
    ·rfl
    ·rfl
    ·exact e q r (fun h=>a (by rw[h]))
def aN.get(d:f)(t:aN f)(n:Nat):f:=aN.lW d (path n) t
def aN.set(d:f)(t:aN f)(n:Nat)(x:f):aN f:=aN.xY d x (path n) t
theorem aN.get_nil(d:f)(n:Nat):aN.get d .nil n=d:=aN.xq d _
theorem aN.aK(d:f)(t:aN f)(i j:Nat)(x:f):(t.set d i x).get d j=if i=j then x else t.get d j:=by
 unfold aN.get aN.set
 grind [aN.ah0,aN.ah1,aoh]
inductive Cap where
 |known (n:Nat)
 |grown (sz:Nat)
 |nx
 |least (n:Nat)
inductive V where
 |bool (b:Bool)
 |int (k:IntKind) (n:Int)
 |str (s:List UInt8)
 |ptr (b o:Nat)
 |ja
 |slice (b o len:Nat) (cap:Cap)
 |ak
 |emp
 |map (b:Nat)
 |j6
 |func (f:FuncId) (first captured:List V)
 |kM
 |kN
 |agg (cs:List V)
 |aA (vs:List V)
 |any
 |cell
 |row (n:Nat) (cs:List V)
 |dh (cs:List V) (k:Nat)
 |gT
abbrev V.undef:V:=.aA []
abbrev Fr:=aN V
inductive om where
 |map (es:List (V×V))
 |iter (m since:Nat) (left:List Nat) (cur:Option Nat) (last:Nat)
 |ro (x:Obj)
inductive cR where
 |none
 |cells (cs:List V) (g:Nat)
 |bD (leaf floor:Nat)
 |cl (o:om)
structure af where
 m:aN cR
 next:Nat
def rI(d:f)(l:List f):Nat→f:=
 List.rec (motive:=fun _=>Nat→f) (fun _=>d) (fun v _ a n=>Nat.rec (motive:=fun _=>f) v (fun m _=>a m) n) l
def cO(l:List f):Nat→Option f:=
 List.rec (motive:=fun _=>Nat→Option f) (fun _=>aJ) (fun v _ a n=>Nat.rec (motive:=fun _=>Option f) (some v) (fun m _=>a m) n) l
def cn(l:List f):Nat:=List.rec (motive:=fun _=>Nat) 0 (fun _ _ a=>Nat.succ a) l
def ej(l:List f):Nat→List f:=
 List.rec (motive:=fun _=>Nat→List f) (fun _=>[]) (fun v l a n=>Nat.rec (motive:=fun _=>List f) (v::l) (fun m _=>a m) n) l
def cj(l:List f):Nat→Option (List f):=
 List.rec (motive:=fun _=>Nat→Option (List f)) (fun n=>Nat.rec (motive:=fun _=>Option (List f)) (some []) (fun _ _=>aJ) n)
  (fun v _ a n=>Nat.rec (motive:=fun _=>Option (List f)) (some []) (fun m _=>Option.casesOn (motive:=fun _=>Option (List f)) (a m) aJ (fun r=>some (v::r))) n) l
def nu(b:List f):List f→Option (List f):=
 List.rec (motive:=fun _=>List f→Option (List f)) (fun l=>some l)
  (fun x _ a l=>List.casesOn (motive:=fun _=>Option (List f)) l aJ (fun _ l=>Option.casesOn (motive:=fun _=>Option (List f)) (a l) aJ (fun r=>some (x::r)))) b
def cz(a:List f)(l:List f):Nat→Option (List f):=
 List.rec (motive:=fun _=>Nat→Option (List f)) (fun n=>Nat.rec (motive:=fun _=>Option (List f)) (nu a []) (fun _ _=>aJ) n)
  (fun v l b n=>Nat.rec (motive:=fun _=>Option (List f)) (nu a (v::l)) (fun m _=>Option.casesOn (motive:=fun _=>Option (List f)) (b m) aJ (fun r=>some (v::r))) n) l
def an{a:Type}(x:Option f)(b:f→Option a):Option a:=
 Option.casesOn (motive:=fun _=>Option a) x aJ b
def aQ(b:Bool)(x:Option f):Option f:=
 Bool.casesOn (motive:=fun _=>Option f) b aJ x
def af.get(H:af)(b:Nat):cR:=H.m.get .none b
def af.set(H:af)(b:Nat)(o:cR):af:=⟨H.m.set .none b o,H.next⟩
def af.push(H:af)(o:cR):af:=⟨H.m.set .none H.next o,Nat.succ H.next⟩
def af.fV(H:af)(b g:Nat):Bool:=
 Nat.rec (motive:=fun _=>Bool) true (fun _ _=>cR.casesOn (motive:=fun _=>Bool) (H.get g) false (fun _ _=>false) (fun _ a=>bL a b) (fun _=>false)) g
def af.cells?(H:af)(b:Nat):Option (List V):=
 cR.casesOn (motive:=fun _=>Option (List V)) (H.get b) aJ (fun a g=>aQ (H.fV b g) (some a)) (fun _ _=>aJ) (fun _=>aJ)
def af.load(H:af)(b o:Nat):Option V:=an (H.cells? b) fun a=>cO a o
def af.cP(H:af)(b o n:Nat):Option (List V):=an (H.cells? b) fun a=>cj (ej a o) n
def V.one(v:V):Bool:=match v with
 |.agg _=>false
 |.aA _=>false
 |.any=>false
 |_=>true
def cK(l:List V):Bool:=List.rec (motive:=fun _=>Bool) true (fun v _ a=>and v.one a) l
def af.e3(H:af)(b o:Nat)(c:List V):Option af:=
 cR.casesOn (motive:=fun _=>Option af) (H.get b) aJ
  (fun d g=>aQ (cK c)<|an (cz c d o) fun a=>
    Nat.rec (motive:=fun _=>Option af) (some (H.set b (.cells a 0)))
     (fun _ _=>cR.casesOn (motive:=fun _=>Option af) (H.get g) aJ (fun _ _=>aJ)
       (fun e _=>aQ (bn e b) (some ((H.set b (.cells a g)).set g (.bD b b)))) (fun _=>aJ)) g)
  (fun _ _=>aJ) (fun _=>aJ)
def e8(c:f→f→Bool)(l:List f):List f→Bool:=
 List.rec (motive:=fun _=>List f→Bool) (fun m=>List.casesOn (motive:=fun _=>Bool) m true (fun _ _=>false))
  (fun a _ d m=>List.casesOn (motive:=fun _=>Bool) m false (fun b m=>and (c a b) (d m))) l
def g8(a b:IntKind):Bool:=match a,b with
 |.i8,.i8|.i16,.i16|.i32,.i32|.i64,.i64|.u8,.u8|.u16,.u16|.u32,.u32|.u64,.u64=>true
 |_,_=>false
def lX(a b:Int):Bool:=match a,b with
 |.ofNat a,.ofNat b=>bn a b
 |.negSucc a,.negSucc b=>bn a b
 |_,_=>false
def lH(a b:Int):Bool:=match a,b with
 |.ofNat a,.ofNat b=>bL (Nat.succ a) b
 |.ofNat _,.negSucc _=>false
 |.negSucc _,.ofNat _=>true
 |.negSucc a,.negSucc b=>bL (Nat.succ b) a
def kP(a b:UInt8):Bool:=bn a.toNat b.toNat
def DZ(a b:Cap):Bool:=match a,b with
 |.known a,.known b=>bn a b
 |.grown a,.grown b=>bn a b
 |.nx,.nx=>true
 |.least a,.least b=>bn a b
 |_,_=>false
def rX(n:Nat):V→V→Bool:=
 Nat.rec (motive:=fun _=>V→V→Bool) (fun _ _=>false) (fun _ c a b=>
  match a with
  |.bool x=>(match b with|.bool y=>Bool.casesOn (motive:=fun _=>Bool) x (!y) y|_=>false)
  |.int k x=>(match b with|.int l y=>and (g8 k l) (lX x y)|_=>false)
  |.str x=>(match b with|.str y=>e8 kP x y|_=>false)
  |.ptr x y=>(match b with|.ptr z t=>and (bn x z) (bn y t)|_=>false)
  |.ja=>(match b with|.ja=>true|_=>false)
  |.slice p q r s=>(match b with|.slice x y z t=>and (and (bn p x) (bn q y)) (and (bn r z) (DZ s t))|_=>false)
  |.ak=>(match b with|.ak=>true|_=>false)
  |.emp=>(match b with|.emp=>true|_=>false)
  |.map x=>(match b with|.map y=>bn x y|_=>false)
  |.j6=>(match b with|.j6=>true|_=>false)
  |.func f x y=>(match b with|.func g z t=>and (bn f g) (and (e8 c x z) (e8 c y t))|_=>false)
  |.kM=>(match b with|.kM=>true|_=>false)
  |.kN=>(match b with|.kN=>true|_=>false)
  |.agg x=>(match b with|.agg y=>e8 c x y|_=>false)
  |.aA x=>(match b with|.aA y=>e8 c x y|_=>false)
  |.any=>false
  |.cell=>false
  |.row x y=>(match b with|.row z t=>and (bn x z) (e8 c y t)|_=>false)
  |.dh x y=>(match b with|.dh z t=>and (e8 c x z) (bn y t)|_=>false)
  |.gT=>(match b with|.gT=>true|_=>false)) n
def uF(f:Value→Option V)(l:List Value):Option (List V):=
 List.rec (motive:=fun _=>Option (List V)) (some []) (fun v _ a=>an (f v) fun x=>an a fun r=>some (x::r)) l
def mU(n:Nat):Value→Option V:=
 Nat.rec (motive:=fun _=>Value→Option V) (fun _=>aJ) (fun _ c v=>
  match v with
  |.bool b=>some (.bool b)
  |.int k n=>some (.int k n)
  |.string s=>some (.str s.data.toList)
  |.pointer aJ=>some .ja
  |.slice aJ 0 0=>some .ak
  |.map aJ=>some .j6
  |.nilFunc=>some .kM
  |.nilIface=>some .kN
  |.agg a=>an (uF c a.toList) fun r=>some (.agg r)
  |.tuple a=>an (uF c a.toList) fun r=>some (.aA r)
  |_=>aJ) n
structure cc where
 m:aN (Option TypeInfo)
 x4:TypeId→Option (List TypeDesc)
def cc.info(T:cc)(t:TypeId):Option TypeInfo:=T.m.get aJ t
def cc.bt(T:cc)(t:TypeId):Option TypeDesc:=
 an (T.info t) fun i=>match i.desc with
  |.named _ u=>an (T.info u) fun j=>some j.desc
  |d=>some d
def cc.isAgg(T:cc)(t:TypeId):Option Bool:=an (T.bt t) fun d=>match d with
 |.struct _=>some true
 |.array _ _=>some true
 |_=>some false
inductive Shape where
 |ptr|slice (len cap:Nat)|bytes (len:Nat)|map|least (len:Nat)
inductive aX where
 |val (v:V)
 |new (cs:List V) (s:Shape)
def Shape.mk(s:Shape)(b:Nat):V:=match s with
 |.ptr=>.ptr b 0
 |.slice l c=>.slice b 0 l (.known c)
 |.bytes l=>.slice b 0 l .nx
 |.map=>.map b
 |.least l=>.slice b 0 l (.least l)
inductive oU where
 |fn (f:FuncId)
inductive bQ where
 |bad
 |pu (xs:List (Fr→V)) (g:List V→Option aX)
 |rd (xs:List (Fr→V)) (g:List V→af→Option V)
 |gK (xs:List (Fr→V)) (g:List V→af→Option (V×af))
 |call (xs:List (Fr→V)) (g:List V→Option (oU×List V))
 |mO (x:Fr→V)
def hH(x:Operand):Option (Fr→V):=match x with
 |.tmp t=>some (fun F=>aN.lW V.undef (path t) F)
 |.const v=>an (mU 20 v) fun y=>some (fun _=>y)
 |.global g=>some (fun _=>.ptr g 0)
 |.func f=>some (fun _=>.func f [] [])
def iK(l:List Operand):Option (List (Fr→V)):=
 List.rec (motive:=fun _=>Option (List (Fr→V))) (some []) (fun x _ a=>an (hH x) fun f=>an a fun r=>some (f::r)) l
def eA:IntKind→Nat
 |.i8|.u8=>256|.i16|.u16=>65536|.i32|.u32=>4294967296|.i64|.u64=>18446744073709551616
def gQ:IntKind→Nat
 |.i8|.u8=>8|.i16|.u16=>16|.i32|.u32=>32|.i64|.u64=>64
def pN:IntKind→Bool
 |.i8|.i16|.i32|.i64=>true
 |_=>false
def gX(M:Nat)(x:Int):Nat:=match x with
 |.ofNat a=>Nat.mod a M
 |.negSucc a=>jv (jv M 1) (Nat.mod a M)
def nN(a:Bool)(M m:Nat):Int:=
 Bool.casesOn (motive:=fun _=>Int) (and a (bL M (eM 2 m))) (.ofNat m) (.negSucc (jv (jv M 1) m))
def aB(k:IntKind)(x:Int):Int:=nN (pN k) (eA k) (gX (eA k) x)
def iT(k:IntKind)(x:Int):Option aX:=some (.val (.int k x))
def h_(b:Bool):Option aX:=some (.val (.bool b))
def rQ(x:Int)(n:Nat):Int:=match x with
 |.ofNat a=>.ofNat (Nat.div a (Nat.pow 2 n))
 |.negSucc a=>.negSucc (Nat.div a (Nat.pow 2 n))
def ep(a b:Nat):Nat:=Bool.casesOn (motive:=fun _=>Nat) (bL a b) b a
def BI(c:BinOp):Option (IntKind→Int→IntKind→Int→Option aX):=match c with
 |.add=>some fun k a l b=>aQ (g8 k l) (iT k (aB k (Int.add a b)))
 |.sub=>some fun k a l b=>aQ (g8 k l) (iT k (aB k (Int.sub a b)))
 |.mul=>some fun k a l b=>aQ (g8 k l) (iT k (aB k (Int.mul a b)))
 |.quo=>some fun k a l b=>aQ (and (g8 k l) (!(lX b (.ofNat 0)))) (iT k (aB k (lO a b)))
 |.rem=>some fun k a l b=>aQ (and (g8 k l) (!(lX b (.ofNat 0)))) (iT k (mZ a b))
 |.and=>some fun k a l b=>aQ (g8 k l) (iT k (nN (pN k) (eA k) (Nat.land (gX (eA k) a) (gX (eA k) b))))
 |.or=>some fun k a l b=>aQ (g8 k l) (iT k (nN (pN k) (eA k) (Nat.lor (gX (eA k) a) (gX (eA k) b))))
 |.shl=>some fun k a _ b=>(match b with
   |.ofNat y=>iT k (aB k (Int.mul a (.ofNat (Nat.pow 2 (ep y (gQ k))))))
   |.negSucc _=>aJ)
 |.shr=>some fun k a _ b=>(match b with
   |.ofNat y=>iT k (rQ a (ep y (gQ k)))
   |.negSucc _=>aJ)
 |.eql=>some fun k a l b=>aQ (g8 k l) (h_ (lX a b))
 |.neq=>some fun k a l b=>aQ (g8 k l) (h_ (!(lX a b)))
 |.lss=>some fun k a l b=>aQ (g8 k l) (h_ (lH a b))
 |.leq=>some fun k a l b=>aQ (g8 k l) (h_ (!(lH b a)))
 |.gtr=>some fun k a l b=>aQ (g8 k l) (h_ (lH b a))
 |.geq=>some fun k a l b=>aQ (g8 k l) (h_ (!(lH a b)))
 |_=>aJ
def cX(x y:List f):List f:=List.rec (motive:=fun _=>List f) y (fun a _ b=>a::b) x
def CM(a:BinOp):Option (List UInt8→List UInt8→Option aX):=match a with
 |.add=>some fun x y=>aQ (bL (gF (cn x) (cn y)) 9223372036854775807) (some (.val (.str (cX x y))))
 |.eql=>some fun x y=>h_ (e8 kP x y)
 |.neq=>some fun x y=>h_ (!(e8 kP x y))
 |_=>aJ
def hC(f:IntKind→Int→IntKind→Int→Option aX)(l:List V):Option aX:=
 match l with
 |[a,b]=>(match a with
  |.int k x=>(match b with|.int c y=>f k x c y|_=>aJ)
  |_=>aJ)
 |_=>aJ
def pQ(f:List UInt8→List UInt8→Option aX)(l:List V):Option aX:=
 match l with
 |[a,b]=>(match a with
  |.str x=>(match b with|.str y=>f x y|_=>aJ)
  |_=>aJ)
 |_=>aJ
def Fx(neg:Bool)(l:List V):Option aX:=
 match l with
 |[a,b]=>(match a with
  |.bool x=>(match b with|.bool y=>h_ (xor neg (xor x (!y)))|_=>aJ)
  |.row n _=>(match b with|.ak=>Bool.casesOn (motive:=fun _=>Option aX) (bn n 0) (h_ neg) aJ|_=>aJ)
  |.ak=>(match b with|.ak=>h_ (!neg)|.slice .. =>h_ neg|.emp=>h_ neg|_=>aJ)
  |.slice .. =>(match b with|.ak=>h_ neg|_=>aJ)
  |.emp=>(match b with|.ak=>h_ neg|_=>aJ)
  |_=>aJ)
 |_=>aJ
def xo(d:TypeDesc)(a:V):Bool:=match d with
 |.bool=>(match a with|.bool _=>true|_=>false)
 |.slice _=>(match a with|.slice .. =>true|.ak=>true|.emp=>true|.row _ _=>true|_=>false)
 |_=>false
def nh(neg:Bool)(d:TypeDesc)(l:List V):Option aX:=match l with
 |a::r=>aQ (xo d a) (Fx neg (a::r))
 |_=>aJ
def vc(d:TypeDesc)(a b:V):Option Bool:=match d with
 |.int _=>(match a with|.int k x=>(match b with|.int l y=>aQ (g8 k l) (some (lX x y))|_=>aJ)|_=>aJ)
 |_=>aJ
def m9(ds:List TypeDesc):List V→List V→Option Bool:=
 List.rec (motive:=fun _=>List V→List V→Option Bool) (fun a b=>List.casesOn (motive:=fun _=>Option Bool) a (List.casesOn (motive:=fun _=>Option Bool) b (some true) (fun _ _=>aJ)) (fun _ _=>aJ))
  (fun d _ c a b=>List.casesOn (motive:=fun _=>Option Bool) a aJ (fun x a=>List.casesOn (motive:=fun _=>Option Bool) b aJ (fun y b=>
    an (vc d x y) fun r=>an (c a b) fun s=>some (and r s)))) ds
def HA(d:TypeDesc)(a b:V):Option Bool:=match d with
 |.string=>(match a with|.str x=>(match b with|.str y=>some (e8 kP x y)|_=>aJ)|_=>aJ)
 |d=>vc d a b
def CC(ds:List TypeDesc):List V→List V→Option Bool:=
 List.rec (motive:=fun _=>List V→List V→Option Bool) (fun _ _=>some true)
  (fun d _ c a b=>match a with
    |x::a=>(match b with|y::b=>an (HA d x y) fun r=>an (c a b) fun s=>some (and r s)|_=>aJ)
    |_=>aJ) ds
def wP(ds:List TypeDesc)(l:List V):Option aX:=match l with
 |[a,b]=>(match a with
  |.agg x=>(match b with|.agg y=>an (CC ds x y) fun r=>h_ (!r)|_=>aJ)
  |_=>aJ)
 |_=>aJ
def tZ(d:TypeDesc):Bool:=match d with
 |.int _=>true
 |.string=>true
 |_=>false
def zS(a:f)(n:Nat):List f:=Nat.rec (motive:=fun _=>List f) [] (fun _ b=>a::b) n
def wO(T:cc)(t:TypeId):Option (List TypeDesc):=
 an (T.bt t) fun d=>match d with
  |.array n e=>an (T.bt e) fun d=>aQ (tZ d)<|an (T.info e) fun i=>aQ (bn i.size 1) (some (zS d n))
  |_=>aJ
def wS(T:cc)(b:BinOp)(t:TypeId)(a:List (Fr→V)):bQ:=
 match T.bt t with
 |some (.int _)=>(match BI b with|some f=>.pu a (hC f)|aJ=>.bad)
 |some .string=>(match CM b with|some f=>.pu a (pQ f)|aJ=>.bad)
 |some (.struct _)=>(match T.x4 t with
  |some ds=>(match b with|.neq=>.pu a (wP ds)|_=>.bad)
  |aJ=>.bad)
 |some d=>(match b with|.eql=>.pu a (nh false d)|.neq=>.pu a (nh true d)|_=>.bad)
 |_=>.bad
def cellsOf(v:V):List V:=match v with
 |.agg a=>a
 |v=>[v]
def aZ(v:V):Bool:=match v with
 |.any=>false
 |_=>true
def rep(b:List f)(n:Nat):List f:=Nat.rec (motive:=fun _=>List f) [] (fun _ a=>cX b a) n
def iz(c:Bool)(d:Nat)(l:List V)(H:af):Option V:=
 match l with
 |[.ptr b o]=>Bool.casesOn (motive:=fun _=>Option V) c (H.load b o) (an (H.cP b o d) fun a=>some (.agg a))
 |[.dh a k]=>Bool.casesOn (motive:=fun _=>Option V) c (cO a k) (an (cj (ej a k) d) fun r=>some (.agg r))
 |_=>aJ
def oI(a:Nat)(l:List V)(H:af):Option (V×af):=
 match l with
 |[.ptr b o,v]=>aQ (and (aZ v) (bn (cn (cellsOf v)) a)) (an (H.e3 b o (cellsOf v)) fun H=>some (V.undef,H))
 |_=>aJ
def o_(d:List (Nat×Nat)):List V→List V→Option (List V):=
 List.rec (motive:=fun _=>List V→List V→Option (List V)) (fun _ a=>some a)
  (fun p _ c b a=>List.casesOn (motive:=fun _=>Option (List V)) b aJ (fun v b=>
    aQ (and (aZ v) (bn (cn (cellsOf v)) p.2)) (an (cz (cellsOf v) a p.1) fun a=>c b a))) d
def placesOf(f:Nat→Option (Nat×Nat))(l:List (Nat×Operand)):Option (List (Nat×Nat)×List (Fr→V)):=
 List.rec (motive:=fun _=>Option (List (Nat×Nat)×List (Fr→V))) (some ([],[]))
  (fun p _ a=>an (f p.1) fun q=>an (hH p.2) fun x=>an a fun r=>some (q::r.1,x::r.2)) l
def zeroCells(T:cc)(t:TypeId):Option (List V):=
 an (T.info t) fun i=>an i.zero fun z=>an (mU 20 z) fun v=>some (cellsOf v)
def iV(T:cc)(t:TypeId):Option Nat:=an (T.info t) fun i=>some i.size
def iJ(x:Option bQ):bQ:=Option.casesOn (motive:=fun _=>bQ) x .bad (fun c=>c)
def Bv(T:cc)(l:List Field):Option (List (Nat×Nat)):=
 List.rec (motive:=fun _=>Option (List (Nat×Nat))) (some []) (fun f _ a=>an (iV T f.type) fun s=>an a fun r=>some ((f.offset,s)::r)) l
def DQ(T:cc)(t:TypeId)(parts:List (Nat×Operand)):bQ:=
 iJ<|an (zeroCells T t) fun c=>an (T.bt t) fun d=>match d with
  |.struct f=>an (Bv T f.toList) fun g=>an (placesOf (cO g) parts) fun r=>
    some (.pu r.2 (fun b=>an (o_ r.1 b c) fun a=>some (.val (.agg a))))
  |.array _ e=>an (iV T e) fun s=>an (placesOf (fun i=>some (eM i s,s)) parts) fun r=>
    some (.pu r.2 (fun b=>an (o_ r.1 b c) fun a=>some (.val (.agg a))))
  |_=>aJ
def DR(T:cc)(t:TypeId)(a:Nat)(parts:List (Nat×Operand)):bQ:=
 iJ<|an (T.bt t) fun d=>match d with
  |.slice e=>an (iV T e) fun s=>aQ (bL (eM a s) 16777216)<|an (zeroCells T e) fun b=>
    an (placesOf (fun i=>some (eM i s,s)) parts) fun r=>
    aQ (bn (cn b) s)<|some (.pu r.2 (fun f=>an (o_ r.1 f (rep b a)) fun c=>some (.new c (.slice a a))))
  |_=>aJ
def gy(v:V):Option Nat:=match v with
 |.int _ (.ofNat n)=>some n
 |_=>aJ
def xm(a:Nat)(l:List V):Option aX:=match l with
 |[.ptr b o]=>some (.val (.ptr b (gF o a)))
 |[.dh c k]=>some (.val (.dh c (gF k a)))
 |_=>aJ
def eo(a:Option Nat)(c:Nat)(l:List V):Option aX:=match l with
 |[x,i]=>an (gy i) fun i=>(match x with
  |.ptr b o=>an a fun n=>aQ (bL (Nat.succ i) n) (some (.val (.ptr b (gF o (eM i c)))))
  |.slice b o e _=>Option.casesOn (motive:=fun _=>Option aX) a (aQ (bL (Nat.succ i) e) (some (.val (.ptr b (gF o (eM i c)))))) (fun _=>aJ)
  |.row n d=>Option.casesOn (motive:=fun _=>Option aX) a (aQ (bL (Nat.succ i) n) (some (.val (.dh d (eM i c))))) (fun _=>aJ)
  |.dh d k=>an a fun n=>aQ (bL (Nat.succ i) n) (some (.val (.dh d (gF k (eM i c)))))
  |_=>aJ)
 |_=>aJ
def kK(l:List V):Option aX:=match l with
 |[.str s,i]=>an (gy i) fun i=>an (cO s i) fun b=>some (.val (.int .u8 (.ofNat b.toNat)))
 |_=>aJ
def jL(lo hi:Option V)(a b:Nat):Option (Nat×Nat):=
 an (Option.casesOn (motive:=fun _=>Option Nat) hi (some a) gy) fun h=>
 an (Option.casesOn (motive:=fun _=>Option Nat) lo (some 0) gy) fun l=>
 aQ (and (bL h b) (bL l h)) (some (l,h))
def fh(n:Nat):Bool:=bn n 0
def vZ(s:List UInt8)(lo hi:Option V):Option aX:=
 an (jL lo hi (cn s) (cn s)) fun r=>an (cj (ej s r.1) (jv r.2 r.1)) fun t=>some (.val (.str t))
def qN(b o c a d:Nat)(lo hi:Option V):Option aX:=
 an (jL lo hi c a) fun r=>
  some (.val (.slice b (Bool.casesOn (motive:=fun _=>Nat) (bn a r.1) (gF o (eM r.1 d)) o) (jv r.2 r.1) (.known (jv a r.1))))
def z3(b o a k:Nat)(lo hi:Option V):Option aX:=
 an (jL lo hi a k) fun r=>aQ (fh r.1) (some (.val (.slice b o r.2 (.least k))))
def v5(b o a:Nat)(c:Cap)(d:Nat)(lo hi:Option V):Option aX:=
 an (jL lo hi a a) fun r=>
  Bool.casesOn (motive:=fun _=>Option aX) (or (fh r.1) (bL (Nat.succ r.1) a)) (some (.val .emp))
   (some (.val (.slice b (gF o (eM r.1 d)) (jv r.2 r.1) c)))
def x5(a n:Nat)(b:List V)(lo hi mx:Option V):Option aX:=
 Option.casesOn (motive:=fun _=>Option aX) mx
  (an (jL lo hi n n) fun r=>Bool.casesOn (motive:=fun _=>Option aX) (bn r.1 r.2)
    (an (cj (ej b (eM r.1 a)) (eM (jv r.2 r.1) a)) fun t=>some (.val (.row (jv r.2 r.1) t)))
    (some (.val (.row 0 []))))
  (fun m=>an (gy m) fun m=>aQ (fh m) (an (jL lo hi n 0) fun _=>some (.val .gT)))
def z2(d:Nat)(x:V)(lo hi mx:Option V):Option aX:=
 match x with
 |.str s=>Option.casesOn (motive:=fun _=>Option aX) mx (vZ s lo hi) (fun _=>aJ)
 |.slice b o a c=>Option.casesOn (motive:=fun _=>Option aX) mx
   (match c with
    |.known n=>qN b o a n d lo hi
    |.grown f=>aQ (bn f d) (v5 b o a c d lo hi)
    |.nx=>v5 b o a c d lo hi
    |.least k=>z3 b o a k lo hi)
   (fun m=>an (gy m) fun m=>aQ (bL m (match c with|.known n=>n|_=>a)) (qN b o a m d lo hi))
 |.ak=>an (jL lo hi 0 0) fun _=>Option.casesOn (motive:=fun _=>Option aX) mx (some (.val .ak)) (fun m=>an (gy m) fun m=>aQ (fh m) (some (.val .ak)))
 |.emp=>an (jL lo hi 0 0) fun _=>Option.casesOn (motive:=fun _=>Option aX) mx (some (.val .emp)) (fun m=>an (gy m) fun m=>aQ (fh m) (some (.val .emp)))
 |.row n e=>x5 d n e lo hi mx
 |_=>aJ
def lg(x:V)(lo hi mx:Option V):Option aX:=match x with
 |.str s=>z2 1 (.str s) lo hi mx
 |_=>aJ
def j_(a:Nat)(x:V)(lo hi mx:Option V):Option aX:=match x with
 |.str _=>aJ
 |x=>z2 a x lo hi mx
def nD(n a:Nat)(x:V)(lo hi mx:Option V):Option aX:=
 match x with
 |.ptr b o=>Option.casesOn (motive:=fun _=>Option aX) mx (qN b o n n a lo hi)
   (fun m=>an (gy m) fun m=>aQ (bL m n) (qN b o n m a lo hi))
 |_=>aJ
def slice3(g:V→Option V→Option V→Option V→Option aX)(lo hi mx:Bool)(l:List V):Option aX:=
 match l with
 |x::r=>
  let a:=Bool.casesOn (motive:=fun _=>Option V×List V) lo (aJ,r) (match r with|y::r=>(some y,r)|[]=>(aJ,[]));let b:=Bool.casesOn (motive:=fun _=>Option V×List V) hi (aJ,a.2) (match a.2 with|y::r=>(some y,r)|[]=>(aJ,[]));let c:=Bool.casesOn (motive:=fun _=>Option V×List V) mx (aJ,b.2) (match b.2 with|y::r=>(some y,r)|[]=>(aJ,[]))
  aQ (or (!mx) hi) (g x a.1 b.1 c.1)
 |[]=>aJ
def l7(bytes:Nat)(a:List V)(l:List V):Option aX:=match l with
 |[x,y]=>an (gy x) fun n=>an (gy y) fun c=>
   aQ (and (bL n c) (bL (eM c bytes) 1099511627776)) (aQ (bL c 1099511627776) (some (.new (rep a c) (.slice n c))))
 |_=>aJ
def kn(v:V):Option Nat:=match v with
 |.slice _ _ n _=>some n
 |.ak=>some 0
 |.emp=>some 0
 |.str s=>some (cn s)
 |.row n _=>some n
 |.gT=>some 0
 |_=>aJ
def lmap{b:Type}(c:f→b)(l:List f):List b:=List.rec (motive:=fun _=>List b) [] (fun a _ d=>c a::d) l
def dX(H:af)(a n:Nat)(v:V):Option (List V):=match v with
 |.slice b o _ _=>H.cP b o (eM n a)
 |.ak=>aQ (fh n) (some [])
 |.emp=>aQ (fh n) (some [])
 |.str s=>aQ (bn a 1)<|an (cj s n) fun t=>some (lmap (fun b=>.int .u8 (.ofNat b.toNat)) t)
 |.row _ c=>cj c (eM n a)
 |.gT=>aQ (fh n) (some [])
 |_=>aJ
def kJ(H:af)(c b:Nat)(a:List V):Option (V×af):=
 some (.slice H.next 0 b (.grown c),(H.push (.cells a (Nat.succ H.next))).push (.bD H.next H.next))
def i_(a bytes:Nat):Bool:=and (bL a 1099511627776) (bL (eM a bytes) 1099511627776)
def oW(H:af)(e:Nat)(b d:Nat)(a:List V):Option (V×af):=
 cR.casesOn (motive:=fun _=>Option (V×af)) (H.get b) aJ
  (fun _ g=>cR.casesOn (motive:=fun _=>Option (V×af)) (H.get g) aJ (fun _ _=>aJ)
    (fun c _=>aQ (and (bn c b) (!(fh g))) (some (.slice H.next 0 d (.grown e),(H.push (.cells a g)).set g (.bD H.next H.next))))
    (fun _=>aJ))
  (fun _ _=>aJ) (fun _=>aJ)
def jJ(d bytes:Nat)(s:V)(n:Nat)(e:List V)(H:af):Option (V×af):=
 Bool.casesOn (motive:=fun _=>Option (V×af)) (fh n)
  (match s with
   |.ak=>aQ (i_ n bytes) (kJ H d n e)
   |.gT=>aQ (i_ n bytes) (kJ H d n e)
   |.slice b o a c=>
    aQ (i_ (gF a n) bytes)<|
    (match c with
     |.known k=>Bool.casesOn (motive:=fun _=>Option (V×af)) (bL (gF a n) k)
       (an (H.cP b o (eM a d)) fun f=>kJ H d (gF a n) (cX f e))
       (an (H.e3 b (gF o (eM a d)) e) fun H=>some (.slice b o (gF a n) c,H))
     |.grown g=>aQ (and (bn g d) (cK e)) (an (H.cP b o (eM a d)) fun f=>oW H d b (gF a n) (cX f e))
     |.nx=>aJ
     |.least k=>aQ (bL (gF a n) k) (an (H.e3 b (gF o (eM a d)) e) fun H=>some (.slice b o (gF a n) (.least k),H)))
   |_=>aJ)
  (match s with
   |.ak=>some (s,H)
   |.slice .. =>some (s,H)
   |.emp=>some (s,H)
   |.row _ _=>some (s,H)
   |.gT=>some (s,H)
   |_=>aJ)
def fA(a bytes:Nat)(l:List V)(H:af):Option (V×af):=match l with
 |[s,x]=>an (kn x) fun n=>an (dX H a n x) fun b=>jJ a bytes s n b H
 |_=>aJ
def yJ(bytes:Nat)(a:List V)(l:List V):Option aX:=match l with
 |[s,x]=>(match s with
  |.ak=>an (gy x) fun n=>aQ (and (bL 1 n) (i_ n bytes)) (some (.new (rep a n) (.least n)))
  |_=>aJ)
 |_=>aJ
def ow(a:Nat)(l:List V)(H:af):Option (V×af):=match l with
 |[.slice b o c _,x]=>an (kn x) fun m=>an (dX H a (ep m c) x) fun d=>
   an (H.e3 b o d) fun H=>some (.int .i64 (.ofNat (ep m c)),H)
 |[.ak,x]=>an (kn x) fun _=>an (dX H a 0 x) fun _=>some (.int .i64 (.ofNat 0),H)
 |[.emp,x]=>an (kn x) fun _=>an (dX H a 0 x) fun _=>some (.int .i64 (.ofNat 0),H)
 |_=>aJ
def rG(T:cc)(c:TypeId):Option (V→V→Option Bool):=
 an (wO T c) fun ds=>some (fun a b=>match a with
  |.agg x=>(match b with|.agg y=>m9 ds x y|_=>aJ)
  |_=>aJ)
def pB(f:V→V→Option Bool)(k:V)(a:List (V×V)):Nat→Option (Option (Nat×V)):=
 List.rec (motive:=fun _=>Nat→Option (Option (Nat×V))) (fun _=>some aJ)
  (fun e _ b i=>an (f k e.1) fun r=>Bool.casesOn (motive:=fun _=>Option (Option (Nat×V))) r (b (Nat.succ i)) (some (some (i,e.2)))) a
def af.jk(H:af)(b:Nat):Option (List (V×V)):=
 cR.casesOn (motive:=fun _=>Option (List (V×V))) (H.get b) aJ (fun _ _=>aJ) (fun _ _=>aJ) (fun o=>match o with|.map a=>some a|_=>aJ)
def ug(a:Bool)(v:V)(there:Bool):V:=match a with
 |true=>.aA [v,.bool there]
 |false=>v
def ue(f:V→V→Option Bool)(z:V)(a:Bool)(l:List V)(H:af):Option V:=match l with
 |[m,k]=>an (f k k) fun _=>(match m with
  |.j6=>some (ug a z false)
  |.map b=>an (H.jk b) fun c=>an (pB f k c 0) fun r=>Option.casesOn (motive:=fun _=>Option V) r (some (ug a z false)) (fun q=>some (ug a q.2 true))
  |_=>aJ)
 |_=>aJ
def zj(l:List f)(x:f):Nat→List f:=
 List.rec (motive:=fun _=>Nat→List f) (fun _=>[]) (fun a l b n=>Nat.rec (motive:=fun _=>List f) (x::l) (fun m _=>a::b m) n) l
def yl(f:V→V→Option Bool)(l:List V)(H:af):Option (V×af):=match l with
 |[.map b,k,v]=>an (f k k) fun _=>an (H.jk b) fun a=>an (pB f k a 0) fun r=>
   Option.casesOn (motive:=fun _=>Option (V×af)) r (some (V.undef,H.set b (.cl (.map (cX a [(k,v)])))))
    (fun q=>some (V.undef,H.set b (.cl (.map (zj a (k,v) q.1)))))
 |_=>aJ
def Gl(l:List V)(H:af):Option (V×af):=match l with
 |[]=>some (.map H.next,H.push (.cl (.map [])))
 |_=>aJ
def ud(l:List V)(H:af):Option V:=match l with
 |[.j6]=>some (.int .i64 (.ofNat 0))
 |[.map b]=>an (H.jk b) fun a=>some (.int .i64 (.ofNat (cn a)))
 |_=>aJ
def upto(n:Nat):List Nat:=Nat.rec (motive:=fun _=>List Nat) [] (fun m a=>m::a) n
def zP(l:List V)(H:af):Option (V×af):=match l with
 |[.map b]=>an (H.jk b) fun a=>some (.ptr H.next 0,H.push (.cl (.iter b (cn a) (upto (cn a)) aJ (cn a))))
 |_=>aJ
def sC(l:List V)(H:af):Option V:=match l with
 |[.ptr b 0]=>(match H.get b with
  |.cl (.iter m _ _ c d)=>an (H.jk m) fun a=>aQ (bn (cn a) d)<|an c fun i=>an (cO a i) fun e=>some (.aA [e.1,e.2])
  |_=>aJ)
 |_=>aJ
def bytesOf(l:List V):Option (List UInt8):=
 List.rec (motive:=fun _=>Option (List UInt8)) (some []) (fun v _ a=>(match v with
  |.int .u8 (.ofNat n)=>aQ (bL (Nat.succ n) 256) (an a fun r=>some (g6 n::r))
  |_=>aJ)) l
def ta(l:List V)(H:af):Option V:=match l with
 |[.ak]=>some (.str [])
 |[.emp]=>some (.str [])
 |[.slice b o c _]=>an (H.cP b o c) fun a=>an (bytesOf a) fun s=>some (.str s)
 |[.row n a]=>an (cj a n) fun a=>an (bytesOf a) fun s=>some (.str s)
 |_=>aJ
def z_(l:List V):Option aX:=match l with
 |[.str s]=>some (.new (lmap (fun b=>.int .u8 (.ofNat b.toNat)) s) (.bytes (cn s)))
 |_=>aJ
def ry(T:cc)(c b:TypeId)(a:List (Fr→V)):bQ:=
 match T.bt c,T.bt b with
 |some (.int _),some (.int k)=>.pu a (fun l=>match l with|[.int _ n]=>iT k (aB k n)|_=>aJ)
 |some .string,some (.slice e)=>(match T.bt e with|some (.int .u8)=>.pu a z_|_=>.bad)
 |some (.slice e),some .string=>(match T.bt e with|some (.int .u8)=>.rd a ta|_=>.bad)
 |_,_=>.bad
def un(f:V→Option aX)(l:List V):Option aX:=match l with
 |[v]=>f v
 |_=>aJ
def zh(v:V):Option aX:=match v with
 |.str s=>iT .i64 (.ofNat (cn s))
 |_=>aJ
def c3(v:V):Option aX:=match v with
 |.slice _ _ n _=>iT .i64 (.ofNat n)
 |.ak=>iT .i64 (.ofNat 0)
 |.emp=>iT .i64 (.ofNat 0)
 |.row n _=>iT .i64 (.ofNat n)
 |.gT=>iT .i64 (.ofNat 0)
 |_=>aJ
def yQ(v:V):Option aX:=match v with
 |.slice _ _ _ c=>(match c with|.known n=>iT .i64 (.ofNat n)|_=>aJ)
 |.ak=>iT .i64 (.ofNat 0)
 |.gT=>iT .i64 (.ofNat 0)
 |_=>aJ
def max2(a b:V):Option V:=match a,b with
 |.int k x,.int _ y=>some (.int k (match lH x y with|true=>y|false=>x))
 |_,_=>aJ
def min2(a b:V):Option V:=match a,b with
 |.int k x,.int _ y=>some (.int k (match lH y x with|true=>y|false=>x))
 |_,_=>aJ
def rA(f:V→V→Option V)(l:List V):Option aX:=match l with
 |[]=>aJ
 |x::r=>an (List.rec (motive:=fun _=>V→Option V) (fun a=>some a) (fun y _ b a=>an (f a y) b) r x) fun v=>some (.val v)
def aiD(T:cc)(a:List TypeId):Option Bool:=an (cO a 1) fun t=>an (T.bt t) fun d=>match d with
 |.int _=>some true
 |_=>some false
def AH(T:cc)(b:Builtin)(c:List TypeId)(a:List (Fr→V)):bQ:=
 iJ<|an (cO c 0) fun t=>an (T.bt t) fun d=>match b with
  |.len=>(match d with
    |.string=>some (.pu a (un zh))
    |.slice _=>some (.pu a (un c3))
    |.array n _=>some (.pu a (un fun _=>iT .i64 (.ofNat n)))
    |.map _ _=>some (.rd a ud)
    |_=>aJ)
  |.cap=>(match d with
    |.slice _=>some (.pu a (un yQ))
    |_=>aJ)
  |.max=>some (.pu a (rA max2))
  |.min=>some (.pu a (rA min2))
  |.append=>(match d with
    |.slice e=>an (T.info e) fun i=>an (aiD T c) fun z=>an (zeroCells T e) fun f=>aQ (bn (cn f) i.size)
      (Bool.casesOn (motive:=fun _=>Option bQ) z (some (.gK a (fA i.size i.bytes))) (some (.pu a (yJ i.bytes f))))
    |_=>aJ)
  |.copy=>(match d with
    |.slice e=>an (iV T e) fun s=>some (.gK a (ow s))
    |_=>aJ)
  |_=>aJ
def sx(l:List V):Option (oU×List V):=match l with
 |.func f first captured::a=>some (.fn f,cX first (cX a captured))
 |_=>aJ
def Ah(v:V):Option Nat:=match v with
 |.int .u64 (.ofNat n)=>some n
 |_=>aJ
def zv(l:List V):Option (Nat×Nat×Nat):=match l with
 |[a,b,c]=>an (Ah a) fun x=>an (Ah b) fun y=>an (Ah c) fun z=>some (x,y,z)
 |_=>aJ
def dc(l:List V):Option aX:=an (zv l) fun t=>aQ (bL t.2.2 1)
 (some (.val (.aA [.int .u64 (.ofNat (Nat.mod (gF (gF t.1 t.2.1) t.2.2) 18446744073709551616)),.int .u64 (.ofNat (Nat.div (gF (gF t.1 t.2.1) t.2.2) 18446744073709551616))])))
def c_(l:List V):Option aX:=an (zv l) fun t=>aQ (bL t.2.2 1)
 (some (.val (.aA [.int .u64 (.ofNat (Nat.mod (jv (jv (gF t.1 18446744073709551616) t.2.1) t.2.2) 18446744073709551616)),.int .u64 (.ofNat (Bool.casesOn (motive:=fun _=>Nat) (bL (gF t.2.1 t.2.2) t.1) 1 0))])))
def FA(a:String):Option (List V→Option aX):=
 if a= "math/bits.Add64" then some dc
 else if a= "math/bits.Sub64" then some c_
 else aJ
abbrev eT:=aN (Option Func)
def Ke(N:eT)(T:cc)(c:Call):bQ:=
 iJ<|match c.callee with
  |.value (.func f)=>an (N.get aJ f) fun d=>an (iK c.args.toList) fun a=>Option.casesOn (motive:=fun _=>Option bQ) d.body
    (aQ (d.origin== "") (an (FA d.name) fun g=>some (.pu a g)))
    (fun _=>some (.call a (fun l=>some (.fn f,l))))
  |.value x=>an (iK (x::c.args.toList)) fun a=>some (.call a sx)
  |.builtin b=>an (iK c.args.toList) fun a=>some (AH T b c.argTypes.toList a)
  |.invoke _ _=>aJ
def zy(l:List V):Option aX:=match l with
 |[.ptr b o]=>some (.val (.ptr b o))
 |[.dh a k]=>some (.val (.dh a k))
 |_=>aJ
def zI(l:List V):Option aX:=match l with
 |[.bool true,x,_]=>some (.val x)
 |[.bool false,_,x]=>some (.val x)
 |_=>aJ
def y6(i:Nat)(l:List V):Option aX:=match l with
 |[.aA a]=>an (cO a i) fun v=>some (.val v)
 |_=>aJ
def PD(l:List V):Option aX:=match l with
 |[x]=>some (.val x)
 |_=>aJ
def I8(l:List V)(H:af):Option (V×af):=match l with
 |[x]=>some (x,H)
 |_=>aJ
def RI(n:Nat)(l:List V):Option (List V×List V):=an (cj l n) fun a=>some (a,ej l n)
def j7(x:Option Operand):List Operand:=match x with|some y=>[y]|aJ=>[]
def cop(N:eT)(T:cc)(o:Op):bQ:=match o with
 |.move x=>iJ (an (hH x) fun x=>some (.pu [x] PD))
 |.assign x=>iJ (an (hH x) fun x=>some (.gK [x] I8))
 |.pick c a b=>iJ (an (iK [c,a,b]) fun h=>some (.pu h zI))
 |.alloc t=>iJ (an (zeroCells T t) fun j=>some (.pu [] (fun l=>match l with|[]=>some (.new j .ptr)|_=>aJ)))
 |.box _ x=>iJ (an (hH x) fun x=>some (.pu [x] (fun l=>match l with|[v]=>aQ (aZ v) (some (.new (cellsOf v) .ptr))|_=>aJ)))
 |.build t parts=>DQ T t parts.toList
 |.buildSlice t n parts=>DR T t n parts.toList
 |.load t a=>iJ (an (hH a) fun x=>an (T.isAgg t) fun g=>an (iV T t) fun s=>some (.rd [x] (iz g s)))
 |.store t a v=>iJ (an (iK [a,v]) fun h=>an (iV T t) fun s=>some (.gK h (oI s)))
 |.nilCheck x=>iJ (an (hH x) fun x=>some (.pu [x] zy))
 |.binOp q t x y _=>iJ (an (iK [x,y]) fun h=>some (wS T q t h))
 |.unOp q _ x=>iJ (an (hH x) fun x=>match q with
   |.neg=>some (.pu [x] (fun l=>match l with|[.int k n]=>iT k (aB k (Int.sub (.ofNat 0) n))|_=>aJ))
   |.not=>some (.pu [x] (fun l=>match l with|[.bool b]=>h_ (!b)|_=>aJ))
   |_=>aJ)
 |.convert s d x=>iJ (an (hH x) fun x=>some (ry T s d [x]))
 |.makeFunc (.func f) first captured=>iJ (an (iK (cX first.toList captured.toList)) fun h=>some (.pu h (fun l=>an (RI (cn first.toList) l) fun r=>some (.val (.func f r.1 r.2)))))
 |.makeSlice t l c=>iJ (an (iK [l,c]) fun h=>an (T.bt t) fun d=>match d with
   |.slice e=>an (T.info e) fun i=>an (zeroCells T e) fun j=>aQ (bn (cn j) i.size) (some (.pu h (l7 i.bytes j)))
   |_=>aJ)
 |.slice t x lo hi mx=>iJ (an (iK (x::cX (j7 lo) (cX (j7 hi) (j7 mx)))) fun h=>an (T.bt t) fun d=>match d with
   |.string=>some (.pu h (slice3 lg lo.isSome hi.isSome mx.isSome))
   |.slice e=>an (iV T e) fun s=>some (.pu h (slice3 (j_ s) lo.isSome hi.isSome mx.isSome))
   |.array n e=>an (iV T e) fun s=>some (.pu h (slice3 (nD n s) lo.isSome hi.isSome mx.isSome))
   |_=>aJ)
 |.fieldAddr s x f=>iJ (an (hH x) fun x=>an (T.bt s) fun d=>match d with
   |.struct u=>an (cO u.toList f) fun f=>an (iV T f.type) fun n=>aQ (!(fh n)) (some (.pu [x] (xm f.offset)))
   |_=>aJ)
 |.indexAddr t x i=>iJ (an (iK [x,i]) fun h=>an (T.bt t) fun d=>match d with
   |.slice e=>an (iV T e) fun s=>some (.pu h (eo aJ s))
   |.array n e=>an (iV T e) fun s=>some (.pu h (eo (some n) s))
   |_=>aJ)
 |.index t x i=>iJ (an (iK [x,i]) fun h=>an (T.bt t) fun d=>match d with
   |.string=>some (.pu h kK)
   |_=>aJ)
 |.extract t i=>iJ (an (hH t) fun x=>some (.pu [x] (y6 i)))
 |.makeMap _ r=>(match r with|aJ=>.gK [] Gl|some _=>.bad)
 |.lookup t x i A=>iJ (an (iK [x,i]) fun h=>an (T.bt t) fun d=>match d with
   |.map p e=>an (rG T p) fun f=>an (T.info e) fun i=>an i.zero fun z=>an (mU 20 z) fun z=>some (.rd h (ue f z A))
   |_=>aJ)
 |.mapUpdate t m k v=>iJ (an (iK [m,k,v]) fun h=>an (T.bt t) fun d=>match d with
   |.map p _=>an (rG T p) fun f=>some (.gK h (yl f))
   |_=>aJ)
 |.range t x=>iJ (an (hH x) fun x=>an (T.bt t) fun d=>match d with
   |.map _ _=>some (.gK [x] zP)
   |_=>aJ)
 |.next x w=>iJ (an (hH x) fun x=>some (Bool.casesOn (motive:=fun _=>bQ) w (.mO x) .bad))
 |.entry x=>iJ (an (hH x) fun x=>some (.rd [x] sC))
 |.call c=>Ke N T c
 |_=>.bad
structure Step where
 want:Fr→Option Bool
 dst:Option Nat
 cop:bQ
inductive c6 where
 |ex (s:Step)
 |re (s:Step)
inductive X where
 |norm|exit (id:Nat)|ret
inductive iD where
 |fail
 |ok (x:X) (F:Fr) (H:af)
def put(F:Fr)(d:Option Nat)(v:V):Fr:=
 Option.casesOn (motive:=fun _=>Fr) d F (fun t=>aN.xY V.undef v (path t) F)
def vals(a:List (Fr→V))(F:Fr):List V:=lmap (fun x=>x F) a
abbrev jS:=oU→List V→af→Option (V×af)
def exec(cf:jS)(s:Step)(F:Fr)(H:af):Option (Fr×af):=
 Option.casesOn (motive:=fun _=>Option (Fr×af)) (s.want F) aJ fun e=>Bool.casesOn (motive:=fun _=>Option (Fr×af)) e (some (put F s.dst V.undef,H))
  (match s.cop with
   |.bad=>aJ
   |.pu a g=>an (g (vals a F)) fun r=>aX.casesOn (motive:=fun _=>Option (Fr×af)) r (fun v=>some (put F s.dst v,H)) (fun b d=>some (put F s.dst (d.mk H.next),H.push (.cells b 0)))
   |.rd a g=>an (g (vals a F) H) fun v=>some (put F s.dst v,H)
   |.gK a g=>an (g (vals a F) H) fun r=>some (put F s.dst r.1,r.2)
   |.call a g=>an (g (vals a F)) fun c=>an (cf c.1 c.2 H) fun r=>some (put F s.dst r.1,r.2)
   |.mO _=>aJ)
def again(s:Step)(F:Fr)(H:af):Bool:=
 Option.casesOn (motive:=fun _=>Bool) (s.want F) false fun a=>Bool.casesOn (motive:=fun _=>Bool) a true
  (match s.cop with
   |.rd b g=>Option.casesOn (motive:=fun _=>Bool) (g (vals b F) H) false (fun v=>Option.casesOn (motive:=fun _=>Bool) s.dst true (fun t=>rX 20 v (aN.lW V.undef (path t) F)))
   |_=>true)
def sZ(cf:jS)(l:List c6):Fr→af→Option (Fr×af):=
 List.rec (motive:=fun _=>Fr→af→Option (Fr×af)) (fun F H=>some (F,H))
  (fun i _ a F H=>c6.casesOn (motive:=fun _=>Option (Fr×af)) i (fun s=>an (exec cf s F H) fun r=>a r.1 r.2) (fun s=>aQ (again s F H) (a F H))) l
def kG(e:Edge):Bool:=match e.ground with
 |.textOnly _=>false
 |.gcOnly _=>false
 |_=>true
def zg(b:f→Bool)(l:List f):Bool:=List.rec (motive:=fun _=>Bool) false (fun a _ c=>or (b a) c) l
def l5(b:f→Bool)(l:List f):Bool:=List.rec (motive:=fun _=>Bool) true (fun a _ c=>and (b a) c) l
def kL(c:f→Bool)(l:List f):List f:=List.rec (motive:=fun _=>List f) [] (fun a _ b=>Bool.casesOn (motive:=fun _=>List f) (c a) b (a::b)) l
def iS(m i:Nat):Bool:=bn (Nat.mod (Nat.shiftRight m i) 2) 1
def qF(b:List Nat)(c:List Edge):Nat:=
 List.rec (motive:=fun _=>Nat) 0 (fun e _ a=>Bool.casesOn (motive:=fun _=>Nat) (kG e) a (Nat.lor a (Nat.lor (Nat.shiftLeft 1 e.on) (rI 0 b e.on)))) c
def masks(c:List Oper):List Nat→List Nat:=
 List.rec (motive:=fun _=>List Nat→List Nat) (fun a=>a) (fun o _ b a=>b (cX a [qF a o.after.toList])) c
def mE(b:List Oper):Nat→Bool:=
 List.rec (motive:=fun _=>Nat→Bool) (fun _=>true) (fun o _ a i=>and (l5 (fun e=>or (!(kG e)) (bL (Nat.succ e.on) i)) o.after.toList) (a (Nat.succ i))) b
def BJ(t:Nat)(x:Operand):Bool:=match x with
 |.tmp u=>bn t u
 |_=>false
def tN(a:List Oper)(j:Nat):Option Nat:=an (cO a j) fun o=>o.dst
def Cd(t:Nat)(d:Option Nat):Bool:=match d with|some u=>bn t u|aJ=>false
def reads(a:List Oper)(o:Oper)(t:Nat):Bool:=
 or (zg (BJ t) o.op.operands.toList) (match o.guard with|some (j,_)=>Cd t (tN a j)|aJ=>false)
def lp(a:List Oper)(o:Oper)(t:Nat):Bool:=or (Cd t o.dst) (reads a o t)
structure Info where
 ix:Nat
 o:Oper
 mask:Nat
 s:Step
 gN:Bool
def pg(b:Bool)(v:V):Option Bool:=match v with
 |.bool x=>some (Bool.casesOn (motive:=fun _=>Bool) b (!x) x)
 |.any=>aJ
 |.cell=>aJ
 |_=>some false
def mh(a:List Oper)(g:Option (Nat×Bool)):Fr→Option Bool:=match g with
 |aJ=>fun _=>some true
 |some (j,b)=>Option.casesOn (motive:=fun _=>Fr→Option Bool) (tN a j) (fun _=>some false)
   (fun t F=>pg b (aN.lW V.undef (path t) F))
def stepOf(N:eT)(T:cc)(a:List Oper)(o:Oper):Step:=⟨mh a o.guard,o.dst,cop N T o.op⟩
def qx(c:bQ):Bool:=match c with|.gK _ _=>true|.call _ _=>true|.mO _=>true|_=>false
def xw(c:bQ):Bool:=match c with|.rd _ _=>true|_=>false
def infos(N:eT)(T:cc)(a:List Oper)(c:List Oper):List Nat→Nat→List Info:=
 List.rec (motive:=fun _=>List Nat→Nat→List Info) (fun _ _=>[])
  (fun o _ b ms i=>⟨i,o,rI 0 ms 0,stepOf N T a o,qx (cop N T o.op)⟩::b (ej ms 1) (Nat.succ i)) c
def s_(a:List Oper)(l:List Info):Bool:=
 l5 (fun k=>match k.o.dst with
  |aJ=>k.gN
  |some t=>and (or k.gN (!(reads a k.o t))) (l5 (fun i=>or (bn i.ix k.ix) (or (!(lp a i.o t)) (or (iS i.mask k.ix) (and k.gN (iS k.mask i.ix))))) l)) l
def AO(l:List Info):Bool:=
 List.rec (motive:=fun _=>Bool) true (fun a l c=>and c (List.casesOn (motive:=fun _=>Bool) l true (fun b _=>iS b.mask a.ix))) l
def nc(b:List Info)(m:Nat):Nat:=List.rec (motive:=fun _=>Nat) 0 (fun e _ a=>Bool.casesOn (motive:=fun _=>Nat) (iS m e.ix) a (Nat.succ a)) b
def mB(l a:List Info)(j:Nat):List Info:=kL (fun i=>and (!i.gN) (bn (nc a i.mask) j)) l
def z5(l a:List Info)(r:List Info):Nat→List c6:=
 List.rec (motive:=fun _=>Nat→List c6) (fun j=>lmap (fun i=>c6.ex i.s) (mB l a j))
  (fun e _ b j=>cX (lmap (fun i=>c6.ex i.s) (mB l a j)) (c6.ex e.s::cX
    (lmap (fun i=>c6.re i.s) (kL (fun i=>and (!i.gN) (and (xw i.s.cop) (and (bL (nc a i.mask) j) (!(iS e.mask i.ix))))) l)) (b (Nat.succ j)))) r
def plan(N:eT)(T:cc)(a:List Oper)(c:Bool):Option (List c6):=
 Bool.casesOn (motive:=fun _=>Option (List c6)) c (some (lmap (fun o=>c6.ex (stepOf N T a o)) a))
  (let l:=infos N T a a (masks a []) 0
   let b:=kL (fun i=>i.gN) l
   aQ (and (mE a 0) (and (s_ a l) (AO b))) (some (z5 l b b 0)))
def uk(G n:Nat)(x:Operand):Bool:=match x with
 |.tmp t=>bL (Nat.succ t) n
 |.global g=>bL (Nat.succ g) G
 |_=>true
def GC(n:Nat)(d:Option Nat):Bool:=match d with|some t=>bL (Nat.succ t) n|aJ=>true
def ny(G n:Nat)(o:Oper):Bool:=and (GC n o.dst) (l5 (uk G n) o.op.operands.toList)
def codeOk(G n:Nat)(c:Code):Bool:=
 Code.rec (motive:=fun _=>Bool) true (fun _ d _=>l5 (ny G n) d.toList) (fun _ _ a b=>and a b) (fun x _ _ a b=>and (uk G n x) (and a b)) (fun _ _ a=>a) (fun _ a=>a)
  (fun g _ _ _ a b=>and (uk G n g) (and a b)) (fun _=>true) (fun _ a=>a) (fun _=>true) (fun _=>true) true (fun _=>true) c
def Hh(n:Nat)(r:ResultVar):Bool:=match r with
 |.tmp t=>bL (Nat.succ t) n
 |.cell a _=>bL (Nat.succ a) n
def sF(G:Nat)(a:Func)(c:Code):Bool:=and (!(a.name== "runtime.NumGoroutine")) (and (codeOk G a.ntmps c) (l5 (Hh a.ntmps) a.results.toList))
def Hi(T:cc)(F:Fr)(H:af)(r:ResultVar):Option V:=match r with
 |.tmp t=>some (aN.lW V.undef (path t) F)
 |.cell a t=>an (T.isAgg t) fun g=>an (iV T t) fun s=>iz g s [aN.lW V.undef (path a) F] H
def rN(T:cc)(F:Fr)(H:af)(l:List ResultVar):Option (List V):=
 List.rec (motive:=fun _=>Option (List V)) (some []) (fun r _ a=>an (Hi T F H r) fun v=>an a fun r=>some (v::r)) l
def oH(l:List V):V:=match l with
 |[v]=>v
 |l=>.aA l
def lV(a:List V):Nat→Fr→Fr:=
 List.rec (motive:=fun _=>Nat→Fr→Fr) (fun _ F=>F) (fun v _ b i F=>b (Nat.succ i) (aN.xY V.undef v (path i) F)) a
abbrev uY:=Nat→Bool→Code→Fr→af→iD
def D3(G:Nat)(N:eT)(T:cc)(run:uY)(f:FuncId)(b:List V)(H:af):Option (V×af):=
 an (N.get aJ f) fun a=>an a.body fun c=>aQ (and (sF G a c) (bL (cn b) a.ntmps))
  (iD.casesOn (motive:=fun _=>Option (V×af)) (run a.ntmps false c (lV b 0 .nil) H) aJ
    (fun x F H=>(match x with
      |.exit _=>aJ
      |_=>an (rN T F H a.results.toList) fun l=>some (oH l,H))))
def wW(G:Nat)(N:eT)(T:cc)(O:jS)(run:uY):jS:=fun t a H=>
 Option.casesOn (motive:=fun _=>Option (V×af)) (O t a H)
  (oU.casesOn (motive:=fun _=>Option (V×af)) t (fun f=>D3 G N T run f a H)) some
def andThen(r:iD)(k:Fr→af→iD):iD:=
 iD.casesOn (motive:=fun _=>iD) r .fail (fun x F H=>X.casesOn (motive:=fun _=>iD) x (k F H) (fun id=>.ok (.exit id) F H) (.ok .ret F H))
def OK(id:Nat)(r:iD):iD:=
 iD.casesOn (motive:=fun _=>iD) r .fail (fun x F H=>X.casesOn (motive:=fun _=>iD) x (.ok .norm F H)
  (fun i=>Bool.casesOn (motive:=fun _=>iD) (bn i id) (.ok (.exit i) F H) (.ok .norm F H)) (.ok .ret F H))
def QV(o:Option (Fr×af)):iD:=Option.casesOn (motive:=fun _=>iD) o .fail (fun r=>.ok .norm r.1 r.2)
def apR(N:eT)(T:cc)(cf:jS)(b:Array Oper)(a:Bool)(F:Fr)(H:af):iD:=
 QV (an (plan N T b.toList a) fun l=>sZ cf l F H)
def Hw(run:Code→Fr→af→iD)(c:Operand)(a b:Code)(F:Fr)(H:af):iD:=
 Option.casesOn (motive:=fun _=>iD) (hH c) .fail (fun x=>(match x F with
  |.bool t=>Bool.casesOn (motive:=fun _=>iD) t (run b F H) (run a F H)
  |_=>.fail))
def run(G:Nat)(N:eT)(T:cc)(O:jS)(f:Nat):uY:=
 Nat.rec (motive:=fun _=>uY) (fun _ _ _ _ _=>.fail) (fun _ d n rd c F H=>
  Code.casesOn (motive:=fun _=>iD) c (.ok .norm F H)
   (fun _ g e=>apR N T (wW G N T O d) g e F H)
   (fun a b=>andThen (d n rd a F H) (d n rd b))
   (fun x a b=>Hw (d n rd) x a b F H)
   (fun id b=>OK id (d n rd b F H))
   (fun b=>andThen (d n rd b F H) (d n rd (.loop b)))
   (fun _ _ _ _=>.fail)
   (fun id=>.ok (.exit id) F H)
   (fun c=>Bool.casesOn (motive:=fun _=>iD) rd (d n false c F H) .fail)
   (fun _=>.ok .norm F H)
   (fun _=>.fail)
   (.ok .ret F H)
   (fun _=>.fail)) f
def D2(G:Nat)(N:eT)(T:cc)(O:jS)(a:Nat):jS:=wW G N T O (run G N T O a)
def qH:jS:=fun _ _ _=>aJ
def wg(l:List f):Nat→aN (Option f)→aN (Option f):=
 List.rec (motive:=fun _=>Nat→aN (Option f)→aN (Option f)) (fun _ t=>t) (fun a _ b i t=>b (Nat.succ i) (aN.xY aJ (some a) (path i) t)) l
def Oa(P:Program):eT:=wg P.funcs.toList 0 .nil
def R7(P:Program)(a:TypeId→Option (List TypeDesc)):cc:=⟨wg P.types.toList 0 .nil,a⟩
structure Loc where
 c:Nat
 base:Nat
 ko:Nat
structure aG where
 f:Nat→Option Loc
 im:Nat→Option Obj
instance:CoeFun aG (fun _=>Nat→Option Loc):=⟨aG.f⟩
def Obj.at(x:Obj)(i:Nat)(v:Value):Prop:=∀(w:World) (c:Nat),w.heap[c]? =some x→w.cell? ⟨c,i,none⟩=some v
def Kl(b:Cap)(a o c:Nat):Prop:=match b with
 |.known n=>a=n
 |.grown d=>o+a*d≤c
 |.nx=>True
 |.least n=>n≤a
mutual
inductive aL (φ:aG):V→Value→Prop
 |bool (b:Bool):aL φ (.bool b) (.bool b)
 |int (k:IntKind) (n:Int):aL φ (.int k n) (.int k n)
 |str (s:List UInt8):aL φ (.str s) (.string ⟨⟨s⟩⟩)
 |ptr {b o:Nat}{l:Loc} (h:φ b=some l):aL φ (.ptr b o) (.pointer (some ⟨l.c,l.base+o,none⟩))
 |ja:aL φ .ja (.pointer none)
 |slice {b o len:Nat}{cap:Cap}{cap':Nat}{l:Loc} (h:φ b=some l) (h1:len≤cap') (h2:Kl cap cap' o l.ko):
   aL φ (.slice b o len cap) (.slice (some ⟨l.c,l.base+o,none⟩) len cap')
 |ak:aL φ .ak (.slice none 0 0)
 |emp (a:Addr) (cap':Nat):aL φ .emp (.slice (some a) 0 cap')
 |map {b:Nat}{l:Loc} (h:φ b=some l):aL φ (.map b) (.map (some l.c))
 |j6:aL φ .j6 (.map none)
 |func (f:FuncId) {xs ys:List V}{xs' ys':List Value} (h1:bp φ xs xs') (h2:bp φ ys ys'):aL φ (.func f xs ys) (.func (.func f) ⟨xs'⟩ ⟨ys'⟩)
 |kM:aL φ .kM .nilFunc
 |kN:aL φ .kN .nilIface
 |agg {xs:List V}{xs':List Value} (h:bp φ xs xs'):aL φ (.agg xs) (.agg ⟨xs'⟩)
 |aA {xs:List V}{xs':List Value} (h:bp φ xs xs'):aL φ (.aA xs) (.tuple ⟨xs'⟩)
 |any (v':Value):aL φ .any v'
 |cell {v':Value} (h:v'.oneCell'=true):aL φ .cell v'
 |fj (a:Option Addr) (cap':Nat) (h:a=none→cap'=0):aL φ (.row 0 []) (.slice a 0 cap')
 |row {n c o cap':Nat}{cs:List V}{vs:List Value}{x:Obj} (h:φ.im c=some x) (h1:bp φ cs vs) (h2:∀i v,vs[i]? =some v→Obj.at x (o+i) v) (h3:n≤cap'):aL φ (.row n cs) (.slice (some ⟨c,o,none⟩) n cap')
 |dh {k c o:Nat}{cs:List V}{vs:List Value}{x:Obj} (h:φ.im c=some x) (h1:bp φ cs vs) (h2:∀i v,vs[i]? =some v→Obj.at x (o+i) v):aL φ (.dh cs k) (.pointer (some ⟨c,o+k,none⟩))
 |gT (a:Option Addr):aL φ .gT (.slice a 0 0)
inductive bp (φ:aG):List V→List Value→Prop
 |nil:bp φ [] []
 |cons {v:V}{v':Value}{vs:List V}{vs':List Value} (h:aL φ v v') (h':bp φ vs vs'):bp φ (v::vs) (v'::vs')
end
structure aG.le (φ ψ:aG):Prop where
 f:∀b l,φ b=some l→ψ b=some l
 im:∀c x,φ.im c=some x→ψ.im c=some x
instance{a c:aG}:CoeFun (a.le c) (fun _=>∀b l,a b=some l→c b=some l):=⟨aG.le.f⟩
theorem aG.le_refl(a:aG):a.le a:=⟨fun _ _ h=>h,fun _ _ h=>h⟩
variable{p:aG}
theorem aG.le_trans{f d:aG}(h:p.le f)(a:f.le d):p.le d:=⟨fun b l e=>a b l (h b l e),fun c x e=>a.im c x (h.im c x e)⟩
variable{x:Value}
theorem aL.mono{g:aG}(h:p.le g){v:V}(r:aL p v x):aL g v x:=by
 refine aL.rec (motive_1:=fun v x _=>aL g v x) (motive_2:=fun v x _=>bp g v x) ?_ ?_ ?_ ?_ ?_ ?_ ?_ ?_ ?_ ?_ ?_ ?_ ?_ ?_ ?_ ?_ ?_ ?_ ?_ ?_ ?_ ?_ ?_ r
 ·exact fun b=>.bool b
 ·exact fun k n=>.int k n
 ·exact fun s=>.str s
 ·exact fun e=>.ptr (h _ _ e)
 ·exact .ja
 ·exact fun e i d=>.slice (h _ _ e) i d
 ·exact .ak
 ·exact fun a c=>.emp a c
 ·exact fun e=>.map (h _ _ e)
 ·exact .j6
 ·exact fun f _ _ _ _ _ _ a b=>.func f a b
 ·exact .kM
 ·exact .kN
 ·exact fun _ a=>.agg a
 ·exact fun _ a=>.aA a
 ·exact fun x=>.any x
 ·exact fun e=>.cell e
 ·exact fun a c h=>.fj a c h
 ·exact fun e _ d j a=>.row (h.im _ _ e) a d j
 ·exact fun e _ d a=>.dh (h.im _ _ e) a d
 ·exact fun a=>.gT a
 ·exact .nil
 ·exact fun _ _ a b=>.cons a b
theorem bp.mono{d:aG}(h:p.le d):∀ {v:List V}{c:List Value},bp p v c→bp d v c
 |_,_,.nil=>.nil
 |_,_,.cons a b=>.cons (a.mono h) (b.mono h)
theorem bp.length:∀ {v:List V}{a:List Value},bp p v a→v.length=a.length
 |_,_,.nil=>rfl
 |_,_,.cons _ b=>by simp[b.length]
theorem bp.get:∀ {v:List V}{c:List Value},bp p v c→∀(i:Nat) (x:V),v[i]? =some x→∃d,c[i]? =some d∧aL p x d
 |_,_,.nil,i,x,h=>by simp at h
 |_,_,.cons a b,0,x,h=>by grind
 |_,_,.cons _ b,i+1,x,h=>by simpa using b.get i x (by simpa using h)
theorem bp.append:∀ {v:List V}{d:List Value}{u:List V}{c:List Value},bp p v d→bp p u c→bp p (v++u) (d++c)
 |_,_,_,_,.nil,h=>h
 |_,_,_,_,.cons a b,h=>.cons a (b.append h)
theorem bp.take(n:Nat):∀ {v:List V}{c:List Value},bp p v c→bp p (v.take n) (c.take n):=by
 induction n with
 |zero=>intro v c _;simpa using bp.nil
 |succ n d=>intro v c h;cases h with
  |nil=>simpa using bp.nil
  |cons a b=>exact .cons a (d b)
theorem bp.drop(n:Nat):∀ {v:List V}{c:List Value},bp p v c→bp p (v.drop n) (c.drop n):=by
 induction n with
 |zero=>grind
 |succ n d=>intro v c h;cases h with
  |nil=>simpa using bp.nil
  |cons a b=>exact d b
theorem gO(l:List f):∀n,cO l n=l[n]? :=by
 induction l with
 |nil=>intro n;rfl
 |cons a l b=>intro n;cases n with
  |zero=>rfl
  |succ n=>exact(b n).trans aE
theorem BZ(d:f)(l:List f):∀n,rI d l n=(l[n]?).getD d:=by
 induction l with
 |nil=>intro n;rfl
 |cons a l b=>intro n;cases n with
  |zero=>rfl
  |succ n=>exact(b n).trans aE
theorem gV(l:List f):cn l=l.length:=by
 induction l with
 |nil=>rfl
 |cons a l b=>exact congrArg Nat.succ b
theorem kj(l:List f):∀n,ej l n=l.drop n:=by
 induction l with
 |nil=>intro n;cases n<;>rfl
 |cons a l b=>intro n;cases n with
  |zero=>rfl
  |succ n=>exact b n
theorem iH(x y:List f):cX x y=x++y:=by
 induction x with
 |nil=>rfl
 |cons a x b=>exact congrArg (a:: ·) b
theorem amE{d:Type}(b:f→d)(x:List f):lmap b x=x.map b:=by
 induction x with
 |nil=>rfl
 |cons a x c=>exact congrArg (b a:: ·) c
theorem eZ(l:List f):∀n,cj l n=if n≤l.length then some (l.take n)else none:=by
 induction l with
 |nil=>intro n;cases n with
  |zero=>rfl
  |succ n=>rfl
 |cons a l b=>intro n;cases n with
  |zero=>rfl
  |succ n=>
   show Option.casesOn (motive:=fun _=>Option (List f)) (cj l n) none (fun r=>some (a::r))=_;rw[b n];by_cases h:n≤l.length
   ·simp[h]
   ·simp[h]
theorem Pr(b:List f):∀l,nu b l=if b.length≤l.length then some (b++l.drop b.length)else none:=by
 induction b with
 |nil=>intro l;simp;rfl
 |cons x b c=>intro l;cases l with
  |nil=>rfl
  |cons a l=>
   show Option.casesOn (motive:=fun _=>Option (List f)) (nu b l) none (fun r=>some (x::r))=_;rw[c l];by_cases h:b.length≤l.length
   ·simp[h]
   ·simp[h]
theorem k8(b:List f)(l:List f):∀n,cz b l n=if n+b.length≤l.length then some (l.take n++b++l.drop (n+b.length))else none:=by
 induction l with
 |nil=>intro n;cases n with
  |zero=>show nu b []=_;rw[Pr];simp
  |succ n=>simp;rfl
 |cons a l c=>intro n;cases n with
  |zero=>show nu b (a::l)=_;rw[Pr];simp
  |succ n=>
   show Option.casesOn (motive:=fun _=>Option (List f)) (cz b l n) none (fun r=>some (a::r))=_;rw[c n];by_cases h:n+b.length≤l.length
   ·have e:n+1+b.length=(n+b.length)+1:=aa;simp[h,e]
   ·have:¬n+1+b.length≤l.length+1:=aa;simp[h,this]
theorem av{c:Type}{x:Option f}{b:f→Option c}{y:c}:an x b=some y↔∃a,x=some a∧b a=some y:=by
 cases x with
 |none=>simp[an]
 |some a=>simp[an]
variable{n:Bool}
theorem cL{x:Option f}{y:f}:aQ n x=some y↔n=true∧x=some y:=by
 cases n<;>simp[aQ]
theorem beq_eq(a b:Nat):bn a b=true↔a=b:=⟨Nat.eq_of_beq_eq_true,fun h=>by simp_all⟩
theorem fB(a b:Nat):bL a b=true↔a≤b:=⟨kV,Nat.ble_eq_true_of_le⟩
theorem vA(a b:IntKind):g8 a b=decide (a=b):=by cases a<;>cases b<;>rfl
theorem qv(a b:Int):lX a b=decide (a=b):=by
 rw[Bool.eq_iff_iff];cases a<;>cases b<;>simp[lX]<;>omega
theorem qw(a b:Int):lH a b=decide (a<b):=by
 rw[Bool.eq_iff_iff];cases a<;>cases b<;>simp[lH]<;>omega
theorem H_(a b:UInt8):kP a b=decide (a=b):=by
 rw[Bool.eq_iff_iff];simp[kP,wN]
theorem DK(k:IntKind):(2:Int)^k.bits=(eA k:Int):=by cases k<;>rfl
theorem Hg(M:Nat)(b:0<M)(x:Int):(gX M x:Int)=x%(M:Int):=by
 cases x with
 |ofNat a=>show((a%M:Nat):Int)=_;simp
 |negSucc a=>
  show((M-1-a%M:Nat):Int)=_;have h:=eX a b;simp_all [Int.negSucc_emod];omega
theorem apu(M:Nat)(a:0<M)(x:Int):gX M x<M:=by
 have h:=Hg M a x;have:=Int.emod_lt_of_pos x (aa:(0:Int)<M);omega
theorem Gp(k:IntKind):0<eA k:=by cases k<;>decide
theorem AG(M m half:Nat)(b:M=2*half)(h:m<M):nN true M m=if(m:Int)≥(half:Int)then(m:Int)-(M:Int)else(m:Int):=by
 unfold nN;by_cases a:M≤2*m
 ·have e:and true (bL M (eM 2 m))=true:=by rw[Bool.true_and];exact(fB _ _).2 a
  rw[e,ao aa]
  grind
 ·have e:and true (bL M (eM 2 m))=false:=by
   rw[Bool.true_and];exact lq.2 (fun h=>a ((fB _ _).1 h))
  simp_all;omega
theorem DJ(k:IntKind)(m:Nat)(h:m<eA k):nN (pN k) (eA k) m=k.wrap (m:Int):=by
 unfold r6;rw[DK];have a:(m:Int)%(eA k:Int)=m:=Int.emod_eq_of_lt aa aa;simp only[a];cases k
 case i8=>exact(AG 256 m 128 rfl h).trans (by simp[p6,p5,eA])
 case i16=>exact(AG 65536 m 32768 rfl h).trans (by simp[p6,p5,eA])
 case i32=>exact(AG 4294967296 m 2147483648 rfl h).trans (by simp[p6,p5,eA])
 case i64=>exact(AG 18446744073709551616 m 9223372036854775808 rfl h).trans (by simp[p6,p5,eA])
 all_goals rfl
theorem pY(k:IntKind)(x:Int):aB k x=k.wrap x:=by
 unfold aB;rw[DJ k _ (apu _ (Gp k) x)];unfold r6
 grind [Hg,Gp,DK,Int.emod_emod_of_dvd,Int.dvd_refl]
def RV(a:Option TypeDesc)(d:TypeDesc):Bool:=match d with
 |.string=>(match a with|some .string=>true|_=>false)
 |.int k=>(match a with|some (.int l)=>g8 l k|_=>false)
 |_=>false
variable{C:TypeDesc}
theorem aq4{a:Option TypeDesc}(h:RV a C=true):a=some C:=by
 cases C<;>first|(cases h;done)|skip
 all_goals cases a with
 |none=>cases h
 |some a=>cases a<;>first|(cases h;done)|rfl|exact congrArg (fun k=>some (TypeDesc.int k)) (of_decide_eq_true ((vA _ _).symm.trans h))
def Aq(P:Program):List Field→List TypeDesc→Nat→Bool
 |[],[],_=>true
 |f::a,d::ds,i=>f.name != "_"&&(bn f.offset i&&(RV (P.underlying f.type) d&&Aq P a ds (i+1)))
 |_,_,_=>false
def Dm(P:Program)(t:TypeId)(ds:List TypeDesc):Prop:=P.underlying t=some (.struct (P.fieldsOf t))∧P.stoodInHeld t=false∧P.eqGuardType P.depth t=false∧Aq P (P.fieldsOf t).toList ds 0=true
structure cT (P:Program) (T:cc):Prop where
 info:∀t i,T.info t=some i→P.info? t=some i
 x4:∀t ds,T.x4 t=some ds→Dm P t ds
variable{g:TypeId}
theorem cT.bt{P:Program}{T:cc}(h:cT P T)(e:T.bt g=some C):P.underlying g=some C:=by
 unfold cc.bt at e;obtain⟨i,hi,e⟩:=av.1 e;unfold Program.underlying;rw[h.info g i hi];obtain⟨a,m,l,bytes,f,c,fa,z,d,ms⟩:=i;cases a<;>simp only[]at e⊢
 case named k u=>
  obtain⟨j,b,e⟩:=av.1 e;rw[h.info u j b];simpa using e
 all_goals exact e
theorem RZ{f:Value→Option V}(a:∀v x,f v=some x→aL p x v):∀(l:List Value) (r:List V),uF f l=some r→bp p r l:=by
 intro l;induction l with
 |nil=>intro r h;cases h;exact .nil
 |cons v l d=>
  intro r h;obtain⟨x,b,h⟩:=av.1 (show an (f v) (fun x=>an (uF f l) fun r=>some (x::r))=some r from h);obtain⟨y,c,h⟩:=av.1 h;cases h;exact .cons (a v x b) (d y c)
theorem CS(g:aG):∀(n:Nat) (v:Value) (x:V),mU n v=some x→aL g x v:=by
 intro n;induction n with
 |zero=>intro v x h;cases h
 |succ n f=>
  intro v x h;cases v with
  |bool b=>cases h;exact .bool b
  |int k m=>cases h;exact .int k m
  |string s=>obtain⟨⟨l⟩⟩:=s;cases h;exact .str l
  |pointer a=>cases a with
   |none=>cases h;exact .ja
   |some a=>cases h
  |slice a l c=>cases a with
   |none=>cases l with
    |zero=>cases c with
     |zero=>cases h;exact .ak
     |succ c=>cases h
    |succ l=>cases h
   |some a=>cases h
  |map r=>cases r with
   |none=>cases h;exact .j6
   |some a=>cases h
  |nilFunc=>cases h;exact .kM
  |nilIface=>cases h;exact .kN
  |agg d=>
   obtain⟨y,e,h⟩:=av.1 (show an (uF (mU n) d.toList) (fun r=>some (V.agg r))=some x from h);cases h;obtain⟨l⟩:=d;exact .agg (RZ f _ _ e)
  |tuple d=>
   obtain⟨y,e,h⟩:=av.1 (show an (uF (mU n) d.toList) (fun r=>some (V.aA r))=some x from h);cases h;obtain⟨l⟩:=d;exact .aA (RZ f _ _ e)
  |_=>cases h
def jI(b:aG)(F:Fr)(a:Array Value):Prop:=∀t,t<a.size→aL b (F.get V.undef t) (a.getD t undef)
variable{m:Fr}
theorem jI.mono{b:aG}(h:p.le b){a:Array Value}(r:jI p m a):jI b m a:=fun t c=>(r t c).mono h
variable{i:Option Nat}
theorem jI.put{a:Act}(r:jI p m a.tmps){v:V}(d:aL p v x):jI p (put m i v) (a.put i x).tmps:=by
 cases i with
 |none=>exact r
 |some i=>
  intro t c;have b:t<a.tmps.size:=by simpa [Act.put]using c
  show aL p ((m.set V.undef i v).get V.undef t) _;rw[aN.aK];by_cases e:i=t
  ·subst e;rw[ao rfl];simpa [Act.put,b]using d
  ·rw[aj e];have:=r t b;simpa [Act.put,Array.getElem?_setIfInBounds_ne e]using this
def jH(b:aG)(F:Fr)(a:Operand→Value)(l:List Operand):Prop:=∀x∈l,∀f,hH x=some f→aL b (f F) (a x)
def lu(G:Nat)(b:aG):Prop:=∀g,g<G→∃a,b g=some ⟨g,0,a⟩
variable{a:Nat}
theorem lu.mono{c:aG}(h:p.le c)(g:lu a p):lu a c:=fun b d=>let⟨l,e⟩:=g b d;⟨l,h _ _ e⟩
def P9(G n:Nat)(x:Operand):Prop:=match x with
 |.tmp t=>t<n
 |.global g=>g<G
 |_=>True
variable{k:Operand}
theorem P_{a:Act}(j:jI p m a.tmps)(i:lu h p)(c:P9 h a.tmps.size k){f:Fr→V}(b:hH k=some f):
 aL p (f m) (a.eval k):=by
 cases k with
 |tmp t=>cases b;exact j t c
 |const v=>
  obtain⟨y,l,b⟩:=av.1 (show an (mU 20 v) (fun y=>some (fun _=>y))=some f from b);cases b;exact CS p _ _ _ l
 |global g=>
  cases b;obtain⟨n,e⟩:=i g c;exact .ptr e
 |func d=>cases b;exact .func d .nil .nil
variable{t:List (Fr→V)}
theorem oE{l:List Operand}(h:iK l=some t):∀ {φ:aG}{F:Fr}{ρ:Operand→Value},jH φ F ρ l→bp φ (vals t F) (l.map ρ):=by
 induction l generalizing t with
 |nil=>cases h;exact fun _=>.nil
 |cons x l e=>
  obtain⟨f,b,h⟩:=av.1 (show an (hH x) (fun f=>an (iK l) fun r=>some (f::r))=some t from h);obtain⟨r,c,h⟩:=av.1 h;cases h;intro φ F ρ a;exact .cons (a x aE f b) (e c (fun y d=>a y (by simp[d])))
def qX(w:World)(c i:Nat):Prop:=(∃v,w.cell? ⟨c,i,none⟩=some v)∧w.frozen? ⟨c,i,none⟩=false
structure hU (w w':World):Prop where
 tape:w'.tape=w.tape
 os:w'.os=w.os
 output:w'.output=w.output
 free:∀ {c i:Nat},qX w c i→qX w' c i
 shape:∀(c:Nat) (cs:Array Value) (t:TypeId) (fr:Nat×Nat),w.heap[c]? =some (.cells cs t fr)→∃cs':Array Value,w'.heap[c]? =some (.cells cs' t fr)∧cs'.size=cs.size
theorem hU.refl(w:World):hU w w:=⟨rfl,rfl,rfl,fun h=>h,fun _ a _ _ h=>⟨a,h,rfl⟩⟩
variable{q:World}
theorem hU.trans{a b:World}(h:hU a b)(c:hU b q):hU a q:=⟨c.tape.trans h.tape,c.os.trans h.os,c.output.trans h.output,fun x=>c.free (h.free x),fun k g t d x=>let⟨e,l,i⟩:=h.shape k g t d x;let⟨f,m,j⟩:=c.shape k e t d l;⟨f,m,j.trans i⟩⟩
theorem qX.of_heap{w':World}(b:w'.heap[a]? =q.heap[a]?)(c:qX q a h):qX w' a h:=by
 unfold qX World.cell? World.frozen? at*;rw[b];exact c
theorem qX.lt(b:qX q a h):a<q.heap.size:=by
 obtain⟨⟨v,c⟩,_⟩:=b;unfold World.cell? at c
 grind
theorem hU.alloc(w:World)(x:Obj):hU w (w.alloc x):=⟨rfl,rfl,rfl,fun h=>qX.of_heap (by
 have:=h.lt;show(w.heap.push x)[_]? =_
 grind) h,fun c a _ _ h=>⟨a,by
 show(w.heap.push x)[c]? =_
 grind,rfl⟩⟩
def q6(c:aG)(a:List (V×V))(b:List MapEntry):Prop:=
 b.length=a.length∧∀i k v,a[i]? =some (k,v)→∃e:MapEntry,b[i]? =some e∧aL c k e.key∧aL c v e.val∧e.born=i
def um(g:aG)(w:World)(a:Nat):om→Prop
 |.map b=>∃d,w.heap[a]? =some (.map ⟨d⟩ b.length)∧q6 g b d
 |.iter m since left h e=>∃f seen,g m=some f∧w.heap[a]? =some (.mapIter (some f.c) since ⟨seen⟩ e)∧(seen≠[]→0<e)∧seen.getLast?=h∧(∀i,i<since→i∉seen→i∈left)∧(∀i∈left,i<since∧i∉seen)
 |.ro x=>w.heap[a]? =some x
variable{O:List (V×V)}{S:List MapEntry}
theorem q6.mono{b:aG}(h:p.le b)(r:q6 p O S):q6 b O S:=
 ⟨r.1,fun i k v e=>let⟨x,c,d,f,g⟩:=r.2 i k v e;⟨x,c,d.mono h,f.mono h,g⟩⟩
theorem um.mono{k:aG}(i:p.le k){j:World}(g:j.heap[h]? =q.heap[h]?){o:om}(r:um p q h o):um k j h o:=by
 cases o with
 |map n=>obtain⟨x,c,f⟩:=r;exact⟨x,g.trans c,f.mono i⟩
 |iter m a b d e=>obtain⟨x,s,c,f,l⟩:=r;exact⟨x,s,i _ _ c,g.trans f,l⟩
 |ro x=>exact g.trans r
structure p4 (φ:aG) (H:af) (w:World) (c:Nat) (x:Obj):Prop where
 obj:w.heap[c]? =some x
 kind:∃cs t fr,x=.cells cs t fr
 off:∀b l,φ b=some l→l.c=c→H.get b=.none
variable{c:af}
theorem p4.lt{x:Obj}(h:p4 p c q a x):a<q.heap.size:=(Array.getElem?_eq_some_iff.1 h.obj).1
theorem p4.keep{e:aG}{H':af}{d:World}{x:Obj}(h:p4 p c q a x)(f:d.heap[a]? =q.heap[a]?)(g:∀b l,e b=some l→l.c=a→H'.get b=.none):p4 e H' d a x:=⟨f.trans h.obj,h.kind,g⟩
variable{Q:Loc}
theorem p4.tO{x:Obj}(b:p4 p c q a x)(d:p h=some Q)(f:c.get h≠ .none):Q.c≠a:=fun e=>f (b.off h Q d e)
structure Rel (φ:aG) (H:af) (w:World):Prop where
 cell:∀ {b:Nat}{l:Loc}{cs:List V}{g i:Nat}{v:V},φ b=some l→H.get b=.cells cs g→H.fV b g=true→cs[i]? =some v→∃v',w.cell? ⟨l.c,l.base+i,none⟩=some v'∧aL φ v v'
 room:∀ {b:Nat}{l:Loc}{i:Nat},φ b=some l→i<l.ko→(∃v',w.cell? ⟨l.c,l.base+i,none⟩=some v')∧w.frozen? ⟨l.c,l.base+i,none⟩=false
 len:∀ {b:Nat}{l:Loc}{cs:List V}{g:Nat},φ b=some l→H.get b=.cells cs g→cs.length≤l.ko
 inj:∀ {b b':Nat}{l l':Loc},φ b=some l→φ b'=some l'→l.c=l'.c→b≠b'→(∃cs cs' g,g≠0∧H.get b=.cells cs g∧H.get b'=.cells cs' g)∨(H.get b=.none∧H.get b'=.none)
 top:∀ {b:Nat},H.next≤b→φ b=none∧H.get b=.none
 loc:∀ {b:Nat}{l:Loc},φ b=some l→l.c<w.heap.size
 mem:∀ {b:Nat}{cs:List V}{g leaf tU:Nat},H.get b=.cells cs g→g≠0→H.get g=.bD leaf tU→b≤leaf
 mG:∀ {g leaf tU:Nat},H.get g=.bD leaf tU→tU≤leaf
 cl:∀ {b:Nat}{l:Loc}{o:om},φ b=some l→H.get b=.cl o→l.base=0∧um φ w l.c o
 fH:∀ {c:Nat}{x:Obj},φ.im c=some x→p4 φ H w c x
 mJ:∀ {b:Nat}{cs:List V}{g:Nat},H.get b=.cells cs g→g<H.next
structure Ext (φ:aG) (H:af) (w:World) (ψ:aG) (H':af) (w':World):Prop where
 rel:Rel ψ H' w'
 le:φ.le ψ
 fresh:∀ {b:Nat}{l:Loc},φ b=none→ψ b=some l→H.next≤b∧(w.heap.size≤l.c∨∃b0 l0,φ b0=some l0∧l0.c=l.c)
 nX:∀ {b:Nat},b<H.next→φ b=none→(∀x y,H.get b≠ .bD x y)→H'.get b=H.get b
 next:H.next≤H'.next
 lY:∀ {c:Nat},c<w.heap.size→(∀b l,φ b=some l→l.c≠c)→w'.heap[c]? =w.heap[c]?
 size:w.heap.size≤w'.heap.size
 same:hU w w'
 jN:∀ {b:Nat}{l:Loc},φ b=some l→H.get b=.none→H'.get b=.none∧w'.heap[l.c]? =w.heap[l.c]?
 nk:∀(c:Nat) (x:Obj),ψ.im c=some x→φ.im c=some x∨w.heap.size≤c∨∃b l,φ b=some l∧l.c=c∧H.get b≠ .none
theorem Ext.refl(h:Rel p c q):Ext p c q p c q:=
 ⟨h,aG.le_refl p,fun a b=>absurd (a.symm.trans b) aE,fun _ _ _=>rfl,aF _,fun _ _=>rfl,aF _,hU.refl q,fun _ h=>⟨h,rfl⟩,fun _ _ e=>.inl e⟩
variable{I:af}
theorem Ext.trans{o E:aG}{v:af}{C D:World}(h:Ext p c q o I C)(h':Ext o I C E v D):Ext p c q E v D:=by
 refine⟨h'.rel,aG.le_trans h.le h'.le,?_,?_,cH h.next h'.next,?_,cH h.size h'.size,h.same.trans h'.same,fun d n=>let⟨G,H⟩:=h.jN d n;let⟨K,L⟩:=h'.jN (h.le _ _ d) G;⟨K,L.trans H⟩,?_⟩
 rotate_left 3
 ·intro s x e;rcases h'.nk s x e with e|e|⟨b,l,d,n,w⟩
  ·exact h.nk s x e
  ·exact .inr (.inl (cH h.size e))
  ·cases a:p b with
   |some u=>
    have:=h.le b u a;rw[d]at this;cases this;exact .inr (.inr ⟨b,l,a,n,fun j=>w (h.jN a j).1⟩)
   |none=>
    rcases(h.fresh a d).2 with j|⟨i,m,j,y⟩
    ·omega
    ·refine .inr (.inr ⟨i,m,j,y.trans n,fun F=>?_⟩);rcases h.rel.inj d (h.le i m j) y.symm (fun Q=>by grind)with⟨O,P,g,_,_,bB⟩|⟨N,_⟩
     ·rw[(h.jN j F).1]at bB;cases bB
     ·exact w N
 ·intro b l r f;cases k:o b with
  |some u=>
   have:=h'.le b u k;rw[this]at f;cases f;exact h.fresh r k
  |none=>
   obtain⟨h2,t⟩:=h'.fresh k f;refine⟨cH h.next h2,?_⟩
   rcases t with t|⟨i,m,a,d⟩
   ·exact .inl (cH h.size t)
   ·cases z:p i with
    |some M=>
     have:=h.le i M z
     grind
    |none=>
     obtain⟨_,R⟩:=h.fresh z a
     grind
 ·intro b k r B;have f:I.get b=c.get b:=h.nX k r B;have h2:o b=none:=by
   cases e:o b with
   |none=>rfl
   |some l=>exact absurd (h.fresh r e).1 aa
  rw[←f];exact h'.nX (eF k h.next) h2 (by rw[f];exact B)
 ·intro s A J;rw[←h.lY A J];refine h'.lY (eF A h.size) (fun b l e=>?_);cases a:p b with
  |some m=>
   have:=h.le b m a
   grind
  |none=>
   rcases(h.fresh a e).2 with f|⟨i,m,d,n⟩
   ·omega
   grind
structure tG (φ:aG) (zB:cR) (ko:Nat) (w w':World):Prop where
 size:w'.heap.size=w.heap.size+1
 old:∀c,c<w.heap.size→w'.heap[c]? =w.heap[c]?
 same:hU w w'
 obj:∃cs,zB=.cells cs 0∧cs.length≤ko∧(∀i v,cs[i]? =some v→∃v',w'.cell? ⟨w.heap.size,i,none⟩=some v'∧aL φ v v')∧
  (∀i,i<ko→(∃v',w'.cell? ⟨w.heap.size,i,none⟩=some v')∧w'.frozen? ⟨w.heap.size,i,none⟩=false)
def fS(P:Program)(φ:aG)(ρ:Operand→Value)(o:Oper)(r:aX):Prop:=∀w,match r with
 |.val v=>∃a,(execOp ρ o).run P w=.ok (.value a) w∧aL φ v a
 |.new f g=>∃a d c,(execOp ρ o).run P w=.ok (.value a) d∧tG φ (.cells f 0) c w d∧∀(e:aG) (b:Nat),e b=some ⟨w.heap.size,0,c⟩→aL e (g.mk b) a
section
variable {P:Program}{φ:aG}{ρ:Operand→Value}{dst:Option Tmp}{ty:TypeId}{pos:String}{after:Array Edge}{guard:Option (Nat×Bool)}
theorem aqa(x:Int)(n:Nat):rQ x n=x.fdiv (2^n):=by
 have d:(0:Int)<2^n:=Int.pow_pos ag;rw[Int.fdiv_eq_ediv_of_nonneg _ aa];cases x with
 |ofNat a=>
  show((a/2^n:Nat):Int)=_;simp
 |negSucc a=>
  show Int.negSucc (a/2^n)=_;have e:((2:Int)^n)=((2^n:Nat):Int):=aE;have b:=Int.negSucc_ediv a d;rw[b,e];have c:(a:Int).ediv ((2^n:Nat):Int)=((a/2^n:Nat):Int):=rfl;rw[c];omega
theorem B_(a b:Nat):ep a b=min a b:=by
 unfold ep;by_cases h:a≤b
 ·rw[(fB a b).2 h];simp;omega
 ·have:bL a b=false:=lq.2 (fun e=>h ((fB a b).1 e));rw[this];simp;omega
theorem JM(k:IntKind):gQ k=k.bits:=by cases k<;>rfl
theorem toNat_ofInt(k:IntKind)(x:Int):(BitVec.ofInt k.bits x).toNat=gX (eA k) x:=by
 grind [Hg,Gp,DK,BitVec.toNat_ofInt]
theorem Qk(k:IntKind):2^k.bits=eA k:=by cases k<;>rfl
variable{o:IntKind}{s:Int}{G:aX}
theorem aja{p:BinOp}{f:IntKind→Int→IntKind→Int→Option aX}(q:BI p=some f){l:IntKind}{a:Int}(b:f o a l s=some G)
 {r:TypeId}{y:Operand} (c:ρ k=.int o a) (d:ρ y=.int l s):fS P φ ρ ⟨dst,.binOp p g k y r,ty,pos,after,guard⟩ G:=by
 intro w;cases p<;>simp only[BI,Option.some.injEq,reduceCtorEq]at q<;>subst q<;>simp only[]at b
 case shl=>
  cases s with
  |ofNat n=>
   cases b;refine⟨_,?_,.int _ _⟩;simp[execOp,eqGuard,c,d,binOp,Op.shift,pY,B_,JM];intro h;omega
  |negSucc n=>cases b
 case shr=>
  cases s with
  |ofNat n=>
   cases b;refine⟨_,?_,.int _ _⟩;simp[execOp,eqGuard,c,d,binOp,Op.shift,aqa,B_,JM];intro h;omega
  |negSucc n=>cases b
 case quo=>
  obtain⟨i,j⟩:=cL.1 b;clear b;simp[vA,qv]at i;obtain⟨rfl,m⟩:=i;cases j;refine⟨_,?_,.int _ _⟩;simp[execOp,eqGuard,c,d,binOp,Op.intDiv,pY,m]
 case rem=>
  obtain⟨i,j⟩:=cL.1 b;clear b;simp[vA,qv]at i;obtain⟨rfl,m⟩:=i;cases j;refine⟨_,?_,.int _ _⟩;simp[execOp,eqGuard,c,d,binOp,Op.intDiv,m]
 all_goals
  obtain⟨i,j⟩:=cL.1 b;clear b;rw[vA,decide_eq_true_eq]at i;subst i;cases j
 case add=>
  have e:aB o (Int.add a s)=o.wrap (a+s):=pY _ _;rw[e];exact⟨_,by simp[execOp,eqGuard,c,d,binOp,Op.intArith],.int _ _⟩
 case sub=>
  have e:aB o (Int.sub a s)=o.wrap (a-s):=pY _ _;rw[e];exact⟨_,by simp[execOp,eqGuard,c,d,binOp,Op.intArith],.int _ _⟩
 case mul=>
  have e:aB o (Int.mul a s)=o.wrap (a*s):=pY _ _;rw[e];exact⟨_,by simp[execOp,eqGuard,c,d,binOp,Op.intArith],.int _ _⟩
 case and=>
  refine⟨_,?_,.int _ _⟩;have e:Nat.land (gX (eA o) a) (gX (eA o) s)=(BitVec.ofInt o.bits a&&&BitVec.ofInt o.bits s).toNat:=by
   rw[BitVec.toNat_and,toNat_ofInt,toNat_ofInt];rfl
  rw[e,DJ o _ (by grind [Qk])];simp[execOp,eqGuard,c,d,binOp,Op.intBits]
 case or=>
  refine⟨_,?_,.int _ _⟩;have e:Nat.lor (gX (eA o) a) (gX (eA o) s)=(BitVec.ofInt o.bits a|||BitVec.ofInt o.bits s).toNat:=by
   rw[BitVec.toNat_or,toNat_ofInt,toNat_ofInt];rfl
  rw[e,DJ o _ (by grind [Qk])];simp[execOp,eqGuard,c,d,binOp,Op.intBits]
 all_goals
  refine⟨_,?_,.bool _⟩;simp[execOp,eqGuard,c,d,binOp,Op.intCmp,qv,qw]
  try first
   |rfl
   |(rw[Bool.eq_iff_iff];simp;done)
   |(rw[Bool.eq_iff_iff];simp;omega)
end
section
variable {P:Program}{φ:aG}{ρ:Operand→Value}{dst:Option Tmp}{ty:TypeId}{pos:String}{after:Array Edge}{guard:Option (Nat×Bool)}
theorem Gf(x:List UInt8):∀y,e8 kP x y=(x==y):=by
 induction x with
 |nil=>intro y;cases y<;>rfl
 |cons a x c=>intro y;cases y with
  |nil=>rfl
  |cons b y=>
   show and (kP a b) (e8 kP x y)=_
   grind [H_]
variable{j:List UInt8}{G:aX}
theorem aqR{b:BinOp}{f:List UInt8→List UInt8→Option aX}(c:CM b=some f){u:List UInt8}(a:f j u=some G)
 {n:TypeId}{y:Operand} (h:ρ k=.string ⟨⟨j⟩⟩) (i:ρ y=.string ⟨⟨u⟩⟩):fS P φ ρ ⟨dst,.binOp b g k y n,ty,pos,after,guard⟩ G:=by
 intro w;cases b<;>simp only[CM,Option.some.injEq,reduceCtorEq]at c<;>subst c<;>simp only[]at a
 case add=>
  obtain⟨d,m⟩:=cL.1 a;clear a;cases m;rw[fB,gV,gV]at d;refine⟨_,?_,.str _⟩;have e:=run_string_add_sum (P:=P) w ⟨⟨j⟩⟩ ⟨⟨u⟩⟩ d;have l:=ByteArray.mk_append_mk j u;simp only[execOp,eqGuard,h,i,binOp];simp[e,l,iH]
 all_goals
  cases a;refine⟨_,?_,.bool _⟩;simp[execOp,eqGuard,h,i,binOp,Op.stringOp,Gf]
theorem Bl{b:BinOp}{neg:Bool}(p:b=if neg then .neq else .eql){A:TypeId}{y:Operand}{d:Value}(u:ρ k=x)(v:ρ y=d)
 (h:x≠ .nilIface) (i:∀c,x≠ .agg c) (hi:∀a n,x≠ .int a n) (o:∀a n,x≠ .float a n) (j:∀a n m,x≠ .complex a n m) (r:∀s,x≠ .string s) {f:Bool}
 (z:(Op.equalIn (9999+1) g x d).run P q=.ok f q):
 (execOp ρ ⟨dst,.binOp b g k y A,ty,pos,after,guard⟩).run P q=.ok (.value (.bool (xor neg f))) q:=by
 have l:(Op.equal g x d).run P q=.ok f q:=z;cases neg
 ·have e:b=.eql:=p;subst e;simp only[execOp,eqGuard,u,v]
  cases x<;>first
   |exact absurd rfl h
   |exact absurd rfl (i _)
   |exact absurd rfl (hi _ _)
   |exact absurd rfl (o _ _)
   |exact absurd rfl (j _ _ _)
   |exact absurd rfl (r _)
   |(simp[binOp,l])
 ·have e:b=.neq:=p;subst e;simp only[execOp,eqGuard,u,v]
  cases x<;>first
   |exact absurd rfl h
   |exact absurd rfl (i _)
   |exact absurd rfl (hi _ _)
   |exact absurd rfl (o _ _)
   |exact absurd rfl (j _ _ _)
   |exact absurd rfl (r _)
   |(simp[binOp,l])
section
variable {t:TypeId}{w:World} (n:Nat)
theorem agJ(c:P.underlying t=some .bool)(a b:Bool):(Op.equalIn (n+1) t (.bool a) (.bool b)).run P w=.ok (a==b) w:=by
 simp[Op.equalIn,run_underlying c w]
theorem agK(a:P.underlying t=some (.slice g))(b:Option Addr)(p q r s:Nat):(Op.equalIn (n+1) t (.slice none p q) (.slice b r s)).run P w=.ok b.isNone w:=by
 simp[Op.equalIn,run_underlying a w]
theorem NF(a:P.underlying t=some (.slice g))(b:Addr)(p q r s:Nat):(Op.equalIn (n+1) t (.slice (some b) p q) (.slice none r s)).run P w=.ok false w:=by
 simp[Op.equalIn,run_underlying a w]
end
variable{r:V}
theorem agI{z:BinOp}{neg:Bool}(d:z=if neg then .neq else .eql){E:TypeId}(c:P.underlying g=some C){a:V}{l:Value}(o:aL φ a x)(s:aL φ r l)
 (D:C=.bool∨∃e,C=.slice e) (u:xo C a=true) (b:Fx neg [a,r]=some G)
 {y:Operand} (f:ρ k=x) (i:ρ y=l):fS P φ ρ ⟨dst,.binOp z g k y E,ty,pos,after,guard⟩ G:=by
 intro w;rcases D with rfl|⟨e,rfl⟩
 ·cases o<;>simp only[xo,iM]at u;cases s<;>first|(cases b;done)|skip
  rename_i p q;cases b;refine⟨_,Bl d f i aE aE aE aE aE aE (agJ 9999 c p q),?_⟩;have:(p==q)=xor p (!q):=by cases p<;>cases q<;>rfl
  rw[this];exact .bool _
 ·have v:∀ {n:Nat}{m:List V},a=.row n m→r=.ak→n≠0∧G=.val (.bool neg):=by
   intro n m A B;subst A B;have h:Bool.casesOn (motive:=fun _=>Option aX) (bn n 0) (some (.val (.bool neg))) aJ=some G:=b;cases j:bn n 0 with
   |true=>rw[j]at h;cases h
   |false=>rw[j]at h;cases h;exact⟨(fun e=>by subst e;cases j),rfl⟩
  cases o<;>simp only[xo,iM]at u<;>cases s<;>first|(cases b;done)|skip
  all_goals first
   |exact absurd rfl (v rfl rfl).1
   |(obtain⟨_,rfl⟩:=v rfl rfl
     exact⟨_,Bl d f i aE aE aE aE aE aE (NF 9999 c _ _ _ _ _),by cases neg<;>exact .bool _⟩)
   |skip
  all_goals
   cases b
   first
   |exact⟨_,Bl d f i aE aE aE aE aE aE (NF 9999 c _ _ _ _ _),by cases neg<;>exact .bool _⟩
   |exact⟨_,Bl d f i aE aE aE aE aE aE (agK 9999 c _ _ _ _ _),by cases neg<;>exact .bool _⟩
theorem anR{b:Bool}(a:ρ k=.bool b):fS P φ ρ ⟨dst,.unOp .not g k,ty,pos,after,guard⟩ (.val (.bool (!b))):=by
 intro w;exact⟨_,by simp[execOp,a,Op.unary],.bool _⟩
variable{o:IntKind}{s:Int}
theorem anB(a:ρ k=.int o s):fS P φ ρ ⟨dst,.unOp .neg g k,ty,pos,after,guard⟩ (.val (.int o (aB o (Int.sub (.ofNat 0) s)))):=by
 intro w;have e:aB o (Int.sub (.ofNat 0) s)=o.wrap (0-s):=pY _ _;rw[e];exact⟨_,by simp[execOp,a,Op.unary,Op.intArith],.int _ _⟩
theorem am9{v:V}(a:aL φ v (ρ k)):fS P φ ρ ⟨dst,.move k,ty,pos,after,guard⟩ (.val v):=
 fun w=>⟨_,by simp[execOp],a⟩
theorem Qg{x y:Operand}{b:Bool}(a:ρ k=.bool b){v:V}(c:aL φ v (if b then ρ x else ρ y)):fS P φ ρ ⟨dst,.pick k x y,ty,pos,after,guard⟩ (.val v):=by
 intro w;exact⟨_,by simp[execOp,a,asBool],c⟩
variable{b:List V}
theorem ag8(c:aL φ (.aA b) (ρ k)){v:V}(f:b[a]? =some v):fS P φ ρ ⟨dst,.extract k a,ty,pos,after,guard⟩ (.val v):=by
 intro w;generalize g:ρ k=y at c
 cases c with
 |aA h=>
  obtain⟨i,d,e⟩:=h.get a v f;refine⟨i,?_,e⟩;simp[execOp,g,Instr.extract,d]
theorem PS{a:Addr}(c:ρ k=.pointer (some a)){v:V}(b:aL φ v (.pointer (some a))):fS P φ ρ ⟨dst,.nilCheck k,ty,pos,after,guard⟩ (.val v):=by
 intro w;exact⟨_,by simp[execOp,c],b⟩
theorem UK{e:IntKind}(c:ρ k=.int e s){d:TypeId}{ds:TypeDesc}(b:P.underlying g=some ds)(a:P.underlying d=some (.int o)):
 fS P φ ρ ⟨dst,.convert g d k,ty,pos,after,guard⟩ (.val (.int o (aB o s))):=by
 intro w;rw[pY];exact⟨_,by simp[execOp,c,convert,run_underlying b,run_underlying a,Conv.intToInt],.int _ _⟩
variable{A:FuncId}{T:Array Operand}
theorem amU{c:Array Operand}{a:List V}(f:bp φ a (T.toList.map ρ))(g:bp φ b (c.toList.map ρ)):
 fS P φ ρ ⟨dst,.makeFunc (.func A) T c,ty,pos,after,guard⟩ (.val (.func A a b)):=by
 intro w;refine⟨.func (.func A) (T.map ρ) (c.map ρ),by simp[execOp,Instr.makeFunc],?_⟩;have d:T.map ρ=⟨T.toList.map ρ⟩:=by apply uM;simp
 have e:c.map ρ=⟨c.toList.map ρ⟩:=by apply uM;simp
 rw[d,e];exact .func A f g
end
theorem bp.P4:∀ {v:List V}{c:List Value},v.length=c.length→(∀(i:Nat) (x:V),v[i]? =some x→∃d,c[i]? =some d∧aL p x d)→bp p v c:=by
 intro v;induction v with
 |nil=>intro c h _;cases c with
  |nil=>exact .nil
  |cons a b=>simp at h
 |cons a v k=>intro c h f;cases c with
  |nil=>simp at h
  |cons b c=>
   obtain⟨d,e,g⟩:=f 0 a aE;simp at e;subst e;exact .cons g (k (by simpa using h) (fun i x j=>by simpa using f (i+1) x (by simpa using j)))
theorem AN{v:V}(h:aL p v x)(b:aZ v=true):bp p (cellsOf v) x.cells.toList:=by
 cases h with
 |agg h=>exact h
 |any x=>cases b
 |cell a=>
  have:∀x:Value,x.oneCell'=true→x.cells.toList=[x]:=by
   intro x h;cases x<;>first|rfl|cases h
  rw[this _ a];exact .cons (.cell a) .nil
 |_=>exact .cons (by constructor<;>assumption) .nil
theorem zT(a:List f):∀n,(rep a n).length=n*a.length:=by
 intro n;induction n with
 |zero=>simp;rfl
 |succ n b=>
  show(cX a (rep a n)).length=_;rw[iH,aV,b,oR,js]
theorem apr(a:List f):∀n i,i<n*a.length→(rep a n)[i]? =a[i%a.length]? :=by
 intro n;induction n with
 |zero=>intro i h;omega
 |succ n b=>
  intro i h;show(cX a (rep a n))[i]? =_;rw[iH];by_cases hi:i<a.length
  ·rw[p8 hi,kf hi]
  grind [tv,oR,Nat.mod_eq_sub_mod]
variable{E:List Value}
theorem bp.getD{v:List V}(h:bp p v E)(hi:a<v.length):∃x b,v[a]? =some x∧E[a]? =some b∧aL p x b:=by
 obtain⟨b,c,d⟩:=h.get a v[a] (by simp[hi])
 grind
variable{b:List V}
theorem Hf{z:Array Value}(h:bp p b z.toList)(n:Nat):bp p (rep b n) ((Array.range (n*z.size)).map (z[·%z.size]!)).toList:=by
 have hl:b.length=z.size:=by simpa using h.length
 refine .P4 (by simp[zT,hl]) (fun i x a=>?_);have hi:i<n*b.length:=by
  have:=(gZ.1 a).1
  grind [zT]
 rw[apr _ _ _ hi]at a;obtain⟨e,c,d⟩:=h.get _ _ a
 grind
theorem ahz(a:Nat):∀(l:List f) (k:Nat) (L:List f),a+k+l.length≤L.length→
 ((l.zipIdx k).foldl (fun(b:Array f) (x:f×Nat)=>b.setIfInBounds (a+x.2) x.1) ⟨L⟩)=⟨L.take (a+k)++l++L.drop (a+k+l.length)⟩:=by
 intro l;induction l with
 |nil=>intro k L h;simp
 |cons c l g=>
  intro k L h;simp only[cV]at h;simp only[List.zipIdx_cons,List.foldl_cons];have e:(⟨L⟩:Array f).setIfInBounds (a+k) c=⟨L.set (a+k) c⟩:=aE;rw[e,g (k+1) _ (by simp;omega)];congr 1;have d:a+(k+1)=(a+k)+1:=aa;rw[d,List.take_set,List.drop_set_of_lt aa];rw[kU aa];have i:(List.take (a+k) L++[L[a+k]]).set (a+k) c=List.take (a+k) L++[c]:=by
   rw[List.set_append_right _ _ (by simp;omega)];simp;have:a+k-min (a+k) L.length=0:=aa;rw[this];rfl
  simp_all;omega
theorem aqH{a:List V}{g c:Array Value}(h:bp p b g.toList)(d:bp p a c.toList){off:Nat}(k:off+b.length≤a.length):
 bp p (a.take off++b++a.drop (off+b.length)) (g.zipIdx.foldl (fun(a:Array Value) (x:Value×Nat)=>a.setIfInBounds (off+x.2) x.1) c).toList:=by
 have f:=h.length;have j:=d.length;obtain⟨L⟩:=c;obtain⟨l⟩:=g;have e:=ahz off l 0 L (by simp at f j;omega);have i:((⟨l⟩:Array Value).zipIdx.foldl (fun(a:Array Value) (x:Value×Nat)=>a.setIfInBounds (off+x.2) x.1) ⟨L⟩)=((l.zipIdx 0).foldl (fun(a:Array Value) (x:Value×Nat)=>a.setIfInBounds (off+x.2) x.1) ⟨L⟩):=by
  rw[←Array.foldl_toList];simp
 rw[i,e];simp only[cG];simp at f;rw[f];exact((d.take off).append h).append (d.drop (off+l.length))
theorem FK{place:Nat→Option (Nat×Nat)}:∀(b:List (Nat×Nat)) (a:List Nat) (e:List V) (f:List Value) (c r:List V) (g:Array Value),
 a.length=b.length→(∀(j:Nat) (d:Nat×Nat),b[j]? =some d→∃i,a[j]? =some i∧place i=some d)→bp p e f→f.length=b.length→bp p c g.toList→o_ b e c=some r→
 ∃n,Instr.fill place g (a.zip f)=some n∧bp p r n.toList:=by
 intro b;induction b with
 |nil=>
  intro a e f c r g m _ w hl l h;cases a with
  |nil=>cases h;exact⟨g,rfl,l⟩
  |cons=>simp at m
 |cons d b F=>
  intro a e f c r g m u w hl l h;cases w with
  |nil=>simp at hl
  |cons D E=>
   rename_i v L e f;cases a with
   |nil=>simp at m
   |cons i a=>
    obtain⟨o,h⟩:=cL.1 (show aQ (and (aZ v) (bn (cn (cellsOf v)) d.2)) (an (cz (cellsOf v) c d.1) fun c=>o_ b e c)=some r from h);obtain⟨G,k,h⟩:=av.1 h;rw[cC,beq_eq,gV]at o;obtain⟨x,o⟩:=o;rw[k8]at k;split at k
    ·rename_i y;cases k;have s:=AN D x;have I:=s.length;have H:=l.length;obtain⟨K,t,z⟩:=u 0 d aE;simp at t;subst t;have B:=aqH (off:=d.1) s l y;obtain⟨n,J,C⟩:=F a e f _ r _ (by simpa using m) (fun j q A=>by simpa using u (j+1) q (by simpa using A)) E (by simpa using hl) B h;refine⟨n,?_,C⟩;simp only[List.zip_cons_cons,Instr.fill,z];simp_all
    ·cases k
theorem zx{a:Array Value}(h:bp p b a.toList)(w:World)(e:TypeId):tG p (.cells b 0) a.size w (w.alloc (.cells a e)):=by
 refine⟨aE,fun c j=>?_,hU.alloc _ _,b,rfl,?_,fun i v d=>?_,fun i hi=>⟨?_,?_⟩⟩
 ·show(w.heap.push _)[c]? =_
  grind
 ·have:=h.length;simp at this;omega
 ·obtain⟨k,f,g⟩:=h.get i v d;simp_all
 ·simp_all
 simp_all
section
variable {P:Program}{φ:aG}{ρ:Operand→Value}{dst:Option Tmp}{ty:TypeId}{pos:String}{after:Array Edge}{guard:Option (Nat×Bool)}{T:cc}
theorem aqj(hT:cT P T)(h:iV T g=some a):∃i,P.info? g=some i∧i.size=a:=by
 obtain⟨i,hi,h⟩:=av.1 (show an (T.info g) (fun i=>some i.size)=some a from h);cases h;exact⟨i,hT.info g i hi,rfl⟩
theorem l_(hT:cT P T)(h:iV T g=some a)(w:World):(sizeOf g).run P w=.ok a w:=by
 obtain⟨i,hi,rfl⟩:=aqj hT h;simp[sizeOf,typeInfo,hi]
theorem qL{i:TypeInfo}(h:P.info? g=some i)(w:World):(typeInfo g).run P w=.ok i w:=by
 simp[typeInfo,h]
theorem are:∀ {n:Nat}{v:Value}{x:V},mU n v=some x→aZ x=true:=by
 intro n v x h;cases n with
 |zero=>cases h
 |succ n=>
  cases v with
  |pointer a=>cases a<;>cases h;rfl
  |slice a l c=>cases a<;>cases l<;>cases c<;>cases h;rfl
  |map r=>cases r<;>cases h;rfl
  |agg b=>
   obtain⟨y,_,h⟩:=av.1 (show an (uF (mU n) b.toList) (fun r=>some (V.agg r))=some x from h);cases h;rfl
  |tuple b=>
   obtain⟨y,_,h⟩:=av.1 (show an (uF (mU n) b.toList) (fun r=>some (V.aA r))=some x from h);cases h;rfl
  |_=>cases h<;>rfl
theorem yu(hT:cT P T)(h:zeroCells T g=some b):∃i z,P.info? g=some i∧i.zero=some z∧∀φ,bp φ b z.cells.toList:=by
 obtain⟨i,hi,h⟩:=av.1 (show an (T.info g) (fun i=>an i.zero fun z=>an (mU 20 z) fun v=>some (cellsOf v))=some b from h);obtain⟨z,c,h⟩:=av.1 h;obtain⟨v,a,h⟩:=av.1 h;cases h;exact⟨i,z,hT.info g i hi,c,fun φ=>AN (CS φ _ _ _ a) (are a)⟩
theorem s4{i:TypeInfo}(h:P.info? g=some i)(a:i.zero=some x)(w:World):(zeroValue g).run P w=.ok x w:=by
 simp[zeroValue,typeInfo,h,a]
theorem Cy(hT:cT P T)(h:T.isAgg g=some n)(w:World):(isAgg g).run P w=.ok n w:=by
 obtain⟨d,a,h⟩:=av.1 (show an (T.bt g) _=some n from h);have b:=run_underlying (hT.bt a) w;cases d<;>simp only[Option.some.injEq]at h<;>subst h<;>simp[isAgg,b]
theorem Ta(hT:cT P T)(h:zeroCells T g=some b):fS P φ ρ ⟨dst,.alloc g,ty,pos,after,guard⟩ (.new b .ptr):=by
 obtain⟨i,z,hi,d,c⟩:=yu hT h;intro w;refine⟨_,_,_,?_,zx (c φ) w g,fun f e a=>.ptr a⟩;simp[execOp,Instr.alloc,s4 hi d,newVar,newRow]
theorem TK{v:V}(h:aL φ v (ρ k))(c:aZ v=true):fS P φ ρ ⟨dst,.box g k,ty,pos,after,guard⟩ (.new (cellsOf v) .ptr):=by
 intro w;refine⟨_,_,_,?_,zx (AN h c) w g,fun d b a=>.ptr a⟩;simp[execOp,Instr.box,newVar,newRow]
theorem xN{f:Nat→Option (Nat×Nat)}:∀ {l:List (Nat×Operand)}{r:List (Nat×Nat)×List (Fr→V)},placesOf f l=some r→
 r.1.length=l.length∧(∀(j:Nat) (p:Nat×Nat),r.1[j]? =some p→∃i,(l.map (·.1))[j]? =some i∧f i=some p)∧iK (l.map (·.2))=some r.2:=by
 intro l;induction l with
 |nil=>intro r h;cases h;exact⟨rfl,fun j p h=>by simp at h,rfl⟩
 |cons x l e=>
  intro r h;obtain⟨q,m,h⟩:=av.1 (show an (f x.1) (fun q=>an (hH x.2) fun y=>an (placesOf f l) fun r=>some (q::r.1,y::r.2))=some r from h);obtain⟨y,d,h⟩:=av.1 h;obtain⟨s,c,h⟩:=av.1 h;cases h;obtain⟨a,g,b⟩:=e c;refine⟨by simp[a],fun j p k=>?_,?_⟩
  ·grind
  ·show an (hH x.2) (fun f=>an (iK (l.map (·.2))) fun r=>some (f::r))=_;rw[d,b];rfl
theorem parts_eq(ρ:Operand→Value)(parts:Array (Nat×Operand)):(parts.map fun(x:Nat×Operand)=>(x.1,ρ x.2)).toList=(parts.toList.map (·.1)).zip ((parts.toList.map (·.2)).map ρ):=by
 obtain⟨l⟩:=parts
 grind
theorem dZ{x:Option bQ}{c:bQ}(h:iJ x=c)(a:c≠ .bad):x=some c:=by
 cases x with
 |none=>exact absurd h.symm a
 |some y=>exact congrArg some h
theorem ahu(hT:cT P T)(w:World):∀ {l:List Field}{a:List (Nat×Nat)},Bv T l=some a→(l.mapM fun f=>(do let s←sizeOf f.type;pure (f.offset,s):Sem (Nat×Nat))).run P w=.ok a w:=by
 intro l;induction l with
 |nil=>intro a h;cases h;rfl
 |cons f l d=>
  intro a h;obtain⟨s,c,h⟩:=av.1 (show an (iV T f.type) (fun s=>an (Bv T l) fun r=>some ((f.offset,s)::r))=some a from h);obtain⟨r,b,h⟩:=av.1 h;cases h;have:=d b;rw[List.mapM_cons];simp only[eg,l_ hT c,eH,fZ,this]
variable{D:List V→Option aX}{G:aX}
theorem TN{parts:Array (Nat×Operand)}(hT:cT P T)(K:DQ T g parts.toList=.pu t D)
 (A:jH φ m ρ (parts.toList.map (·.2))) (a:D (vals t m)=some G):fS P φ ρ ⟨dst,.build g parts,ty,pos,after,guard⟩ G:=by
 have h:=dZ K aE;obtain⟨H,R,h⟩:=av.1 h;obtain⟨i,z,hi,E,B⟩:=yu hT R;obtain⟨d,L,h⟩:=av.1 h;have C:=run_underlying (hT.bt L);intro w;cases d<;>simp only[reduceCtorEq]at h
 case struct I=>
  obtain⟨F,O,h⟩:=av.1 h;obtain⟨q,v,h⟩:=av.1 h;cases h;obtain⟨b,J,r⟩:=xN v;obtain⟨o,u,a⟩:=av.1 a;cases a;have y:=oE r A;have N:(I.mapM fun f=>(do let s←sizeOf f.type;pure (f.offset,s):Sem (Nat×Nat))).run P w=.ok ⟨F⟩ w:=by
   rw[Array.mapM_eq_mapM_toList];simp only[Sem.run_map,ahu hT w O,eH]
  obtain⟨k,c,x⟩:=FK (place:=((⟨F⟩:Array (Nat×Nat))[·]?)) q.1 (parts.toList.map (·.1)) _ _ H o z.cells (by simp[b]) (fun j p M=>by
   grind [gO]) y (by simp[b]) (B φ) u
  refine⟨.agg k,?_,?_⟩
  ·simp only[execOp,Instr.build];rw[←parts_eq]at c;simp only[eg,s4 hi E,eH,C,N,c,fZ]
  ·obtain⟨l⟩:=k;exact .agg x
 case array n e=>
  obtain⟨s,Q,h⟩:=av.1 h;obtain⟨q,v,h⟩:=av.1 h;cases h;obtain⟨b,J,r⟩:=xN v;obtain⟨o,u,a⟩:=av.1 a;cases a;have y:=oE r A;obtain⟨k,c,x⟩:=FK (place:=fun i=>some (i*s,s)) q.1 (parts.toList.map (·.1)) _ _ H o z.cells (by simp[b]) (fun j p M=>by
   grind) y (by simp[b]) (B φ) u
  refine⟨.agg k,?_,?_⟩
  ·simp only[execOp,Instr.build];rw[←parts_eq]at c;simp only[eg,s4 hi E,eH,C,l_ hT Q,c,fZ]
  ·obtain⟨l⟩:=k;exact .agg x
end
theorem u5{v:V}(b:gy v=some h):∃k,v=.int k (h:Int):=by
 cases v with
 |int k m=>cases m with
  |ofNat a=>cases b;exact⟨k,rfl⟩
  |negSucc a=>cases b
 |_=>cases b
section
variable {P:Program}{φ:aG}{ρ:Operand→Value}{dst:Option Tmp}{ty:TypeId}{pos:String}{after:Array Edge}{guard:Option (Nat×Bool)}{T:cc}
variable{D:List V→Option aX}{G:aX}
theorem TM{parts:Array (Nat×Operand)}(hT:cT P T)(E:DR T g a parts.toList=.pu t D)
 (I:jH φ m ρ (parts.toList.map (·.2))) (l:D (vals t m)=some G):fS P φ ρ ⟨dst,.buildSlice g a parts,ty,pos,after,guard⟩ G:=by
 have h:=dZ E aE;obtain⟨d,H,h⟩:=av.1 h;have x:=run_underlying (hT.bt H);intro w;cases d<;>simp only[reduceCtorEq]at h
 case slice e=>
  obtain⟨s,u,h⟩:=av.1 h;obtain⟨o,h⟩:=cL.1 h;obtain⟨k,O,h⟩:=av.1 h;obtain⟨i,z,hi,Q,L⟩:=yu hT O;obtain⟨q,J,h⟩:=av.1 h;obtain⟨v,h⟩:=cL.1 h;cases h;obtain⟨n,R,B⟩:=xN J;obtain⟨A,F,l⟩:=av.1 l;cases l;rw[fB]at o;rw[beq_eq,gV]at v;have U:z.cells.size=s:=by have:=(L φ).length;simp at this;omega
  have N:=oE B I;have M:bp φ (rep k a) ((Array.range (a*s)).map ((if a*s=0 then #[]else z.cells)[·%(if a*s=0 then #[]else z.cells).size]!)).toList:=by
   by_cases c:a*s=0
   ·simp only[c,if_true];have:rep k a=[]:=by
     have:=zT k a;rw[v,c]at this;exact oP this
    rw[this];simpa using bp.nil
   ·simp only[c,if_false]
    grind [Hf]
  obtain⟨y,f,K⟩:=FK (place:=fun i=>some (i*s,s)) q.1 (parts.toList.map (·.1)) _ _ (rep k a) A _ (by simp[n]) (fun j p S=>by
   grind) N (by simp[n]) M F
  rw[←parts_eq]at f;refine⟨.slice (some ⟨w.heap.size,0,none⟩) a a,w.alloc (.cells y e),y.size,?_,zx K w e,fun V b C=>.slice C (aF _) rfl⟩;simp only[execOp,Instr.buildSlice];have r:¬(a*s>2^24):=by
   have:a*s≤16777216:=o;omega
  by_cases c:a*s=0
  ·simp only[ao c]at f;simp only[eg,x,eH,l_ hT u,aj r,ao c,fZ,f,newRow,run_newObj];simp
  ·simp only[aj c]at f;simp only[eg,x,eH,l_ hT u,aj r,aj c,s4 hi Q,fZ,f,newRow,run_newObj];simp
variable{r:V}
theorem amX{e:TypeId}{y:Operand}{i:TypeInfo}(hT:cT P T)(u:T.bt g=some (.slice e))(hi:T.info e=some i)(K:zeroCells T e=some b)(C:b.length=i.size)
 {a:V} (o:aL φ a (ρ k)) (j:aL φ r (ρ y)) (f:l7 i.bytes b [a,r]=some G):fS P φ ρ ⟨dst,.makeSlice g k y,ty,pos,after,guard⟩ G:=by
 intro w;have E:=run_underlying (hT.bt u);obtain⟨d,z,l,L,A⟩:=yu hT K;have x:d=i:=by have:=hT.info e i hi;rw[l]at this;exact Option.some.inj this
 subst x;obtain⟨n,h,f⟩:=av.1 (show an (gy a) _=some G from f);obtain⟨c,s,f⟩:=av.1 f;obtain⟨m,f⟩:=cL.1 f;obtain⟨q,f⟩:=cL.1 f;cases f;rw[cC,fB,fB]at m;rw[fB]at q;obtain⟨O,rfl⟩:=u5 h;obtain⟨Q,rfl⟩:=u5 s;generalize I:ρ k=R at o
 generalize J:ρ y=S at j
 cases o;cases j;have p:n≤c∧c*d.bytes≤1099511627776:=m;have F:IntKind.i64.wrap (n:Int)=n:=by simp[r6,p5,p6];omega
 have H:IntKind.i64.wrap (c:Int)=c:=by simp[r6,p5,p6];omega
 have N:z.cells.size=d.size:=by have:=(A φ).length;simp at this;omega
 have M:¬((d.bytes:Int)*(c:Int)>2^48):=by
  have:((c*d.bytes:Nat):Int)≤1099511627776:=aa;rw[fY,Int.mul_comm]at this;omega
 have t:((decide ((c:Int)<0)||decide ((d.bytes:Int)*(c:Int)>2^48))||decide ((n:Int)<0)||decide ((n:Int)>c))=false:=by
  simp;omega
 have B:bp φ (rep b c) ((Array.range (c*d.size)).map ((if c*d.size=0 then #[]else z.cells)[·%(if c*d.size=0 then #[]else z.cells).size]!)).toList:=by
  by_cases h:c*d.size=0
  ·simp only[h,if_true];have:rep b c=[]:=by
    have:=zT b c;rw[C,h]at this;exact oP this
   rw[this];simpa using bp.nil
  ·simp only[h,if_false]
   grind [Hf]
 refine⟨.slice (some ⟨w.heap.size,0,none⟩) n c,_,_,?_,zx B w e,fun U r j=>.slice j p.1 rfl⟩;have v:=qL (P:=P) l;have D:(sizeOf e).run P=fun w=>.ok d.size w:=by funext w;simp[sizeOf,qL l]
 simp only[execOp,Instr.makeSlice,I,J,asInt,asIntOf];simp only[eg,E,eH,fZ,v,F,H,t,iM,if_false,run_askRoom,D,bH];by_cases h:c*d.size=0
 ·simp[h,newRow]
 ·simp[h,newRow,s4 l L]
end
theorem mz(c b n:Nat):(⟨c,b,none⟩:Addr).add n=⟨c,b+n,none⟩:=by
 unfold Addr.add;split<;>simp_all
section
variable {P:Program}{φ:aG}{ρ:Operand→Value}{dst:Option Tmp}{ty:TypeId}{pos:String}{after:Array Edge}{guard:Option (Nat×Bool)}{T:cc}
variable{G:aX}
theorem ahj{e:Array Field}{d:Field}(hT:cT P T)(n:T.bt g=some (.struct e))(p:e.toList[a]? =some d)(q:iV T d.type=some h)(m:h≠0)
 {v:V} (f:aL φ v (ρ k)) (j:xm d.offset [v]=some G):fS P φ ρ ⟨dst,.fieldAddr g k a,ty,pos,after,guard⟩ G:=by
 intro w;generalize r:ρ k=B at f
 cases f<;>first|(cases j;done)|skip
 ·rename_i b o l t;cases j;refine⟨.pointer (some ⟨l.c,l.base+(o+d.offset),none⟩),?_,.ptr t⟩;have i:e[a]? =some d:=by simpa using p
  simp only[execOp,Instr.fieldAt,r];simp only[eg,run_underlying (hT.bt n),eH,i,wv,fZ,fieldPlace,l_ hT q,aj m,mz];simp[mo]
 ·rename_i x s o z A y hi u f;cases j;refine⟨.pointer (some ⟨s,o+(x+d.offset),none⟩),?_,.dh hi u f⟩;have i:e[a]? =some d:=by simpa using p
  simp only[execOp,Instr.fieldAt,r];simp only[eg,run_underlying (hT.bt n),eH,i,wv,fZ,fieldPlace,l_ hT q,aj m,mz];simp[mo]
variable{r:V}
theorem ai7{e:TypeId}{y:Operand}(hT:cT P T)(q:T.bt g=some (.slice e))(s:iV T e=some h){a:V}(p:aL φ a (ρ k))(hi:aL φ r (ρ y))(d:eo none h [a,r]=some G):
 fS P φ ρ ⟨dst,.indexAddr g k y,ty,pos,after,guard⟩ G:=by
 intro w;obtain⟨m,D,n⟩:=av.1 (show an (gy r) _=some G from d);clear d;obtain⟨J,rfl⟩:=u5 D;generalize t:ρ k=L at p
 generalize u:ρ y=M at hi
 cases hi;cases p<;>first|(cases n;done)|skip
 ·rename_i b o f F x l B A I;obtain⟨j,d⟩:=cL.1 (show aQ (bL (Nat.succ m) f) _=some G from n);cases d;rw[fB]at j;refine⟨.pointer (some ⟨l.c,l.base+(o+m*h),none⟩),?_,.ptr B⟩;have i:0≤(m:Int)∧(m:Int)<(f:Int):=aa;simp only[execOp,Instr.indexAt,t,u,asIntOf];simp only[eg,fZ,eH,run_underlying (hT.bt q),ao i,l_ hT s,bH,mz];simp[mo]
 ·rename_i f v o x H K z hi C E A;obtain⟨j,d⟩:=cL.1 (show aQ (bL (Nat.succ m) f) _=some G from n);cases d;rw[fB]at j;refine⟨.pointer (some ⟨v,o+(m*h),none⟩),?_,.dh hi C E⟩;have i:0≤(m:Int)∧(m:Int)<(f:Int):=aa;simp only[execOp,Instr.indexAt,t,u,asIntOf];simp only[eg,fZ,eH,run_underlying (hT.bt q),ao i,l_ hT s,bH,mz]
variable{u:Nat}
theorem ai6{e:TypeId}{y:Operand}(hT:cT P T)(p:T.bt g=some (.array u e))(q:iV T e=some h){a:V}(n:aL φ a (ρ k))(hi:aL φ r (ρ y))(d:eo (some u) h [a,r]=some G):
 fS P φ ρ ⟨dst,.indexAddr g k y,ty,pos,after,guard⟩ G:=by
 intro w;obtain⟨m,B,j⟩:=av.1 (show an (gy r) _=some G from d);clear d;obtain⟨F,rfl⟩:=u5 B;generalize s:ρ k=I at n
 generalize t:ρ y=J at hi
 cases hi;cases n<;>first|(cases j;done)|skip
 ·rename_i b o l x;obtain⟨i,d⟩:=cL.1 (show aQ (bL (Nat.succ m) u) _=some G from j);cases d;rw[fB]at i;refine⟨.pointer (some ⟨l.c,l.base+(o+m*h),none⟩),?_,.ptr x⟩;have f:0≤(m:Int)∧(m:Int)<(u:Int):=aa;simp only[execOp,Instr.indexAt,s,t,asIntOf];simp only[eg,fZ,eH,run_underlying (hT.bt p),wv,ao f,l_ hT q,bH,mz];simp[mo]
 ·rename_i D v o E H z hi A C;obtain⟨i,d⟩:=cL.1 (show aQ (bL (Nat.succ m) u) _=some G from j);cases d;rw[fB]at i;refine⟨.pointer (some ⟨v,o+(D+m*h),none⟩),?_,.dh hi A C⟩;have f:0≤(m:Int)∧(m:Int)<(u:Int):=aa;simp only[execOp,Instr.indexAt,s,t,asIntOf];simp only[eg,fZ,eH,run_underlying (hT.bt p),wv,ao f,l_ hT q,bH,mz];simp[mo]
theorem ai9{y:Operand}(p:P.underlying g=some .string){a:V}(e:aL φ a (ρ k))(hi:aL φ r (ρ y))(c:kK [a,r]=some G):
 fS P φ ρ ⟨dst,.index g k y,ty,pos,after,guard⟩ G:=by
 intro w;generalize l:ρ k=t at e
 generalize n:ρ y=u at hi
 cases e<;>first|(cases c;done)|skip
 rename_i s;obtain⟨m,i,c⟩:=av.1 (show an (gy r) _=some G from c);obtain⟨q,rfl⟩:=u5 i;cases hi;obtain⟨b,d,c⟩:=av.1 c;cases c;rw[gO]at d;refine⟨_,?_,.int _ _⟩;have o:(⟨⟨s⟩⟩:ByteArray)[m]? =some b:=by
  have h:=(gZ.1 d).1;have f:=(gZ.1 d).2;have j:m<(⟨⟨s⟩⟩:ByteArray).size:=h;rw[getElem?_pos (⟨⟨s⟩⟩:ByteArray) m j];exact congrArg some f
 simp only[execOp,Instr.index,l,n,asIntOf];simp_all [eg,fZ,eH,run_underlying,uP,if_true,bH]
end
def lB(φ:aG):Option V→Option Value→Prop
 |none,none=>True
 |some v,some a=>aL φ v a
 |_,_=>False
section
variable {P:Program}{φ:aG}{ρ:Operand→Value}{dst:Option Tmp}{ty:TypeId}{pos:String}{after:Array Edge}{guard:Option (Nat×Bool)}{T:cc}
theorem s0{v:V}(c:aL φ v x)(d:gy v=some a)(e:a≤h)(b:BoundsCode)(w:World):(Instr.sliceBound x h b).run P w=.ok a w:=by
 obtain⟨k,rfl⟩:=u5 d;cases c;have f:0≤(a:Int)∧(a:Int)≤(h:Int):=aa;simp[Instr.sliceBound,asIntOf,e]
def JO(x:Option V)(d n:Nat):Prop:=match x with
 |none=>n=d
 |some v=>gy v=some n
variable{u:Nat}{L:Nat}
theorem sw{lo hi:Option V}(b:jL lo hi a h=some (u,L)):
 JO hi a L∧JO lo 0 u∧L≤h∧u≤L:=by
 obtain⟨f,d,b⟩:=av.1 b;obtain⟨g,e,b⟩:=av.1 b;obtain⟨c,b⟩:=cL.1 b;cases b;rw[cC,fB,fB]at c;refine⟨?_,?_,c.1,c.2⟩
 ·cases hi with
  |none=>cases d;rfl
  |some v=>exact d
 ·cases lo with
  |none=>cases e;rfl
  |some v=>exact e
theorem s3{nt:Bool}{lo hi:Option V}{c f:Option Value}(rl:lB φ lo c)(g:lB φ hi f){j:Nat}(e:jL lo hi a h=some (L,j))(m:h≤u)(w:World):
 (r5 nt a u c f none).run P w=.ok (L,j,u) w:=by
 obtain⟨d,b,k,l⟩:=sw e;cases hi with
 |none=>
  cases f with
  |some v=>exact g.elim
  |none=>
   have n:j=a:=d;clear d e;subst n;cases lo with
   |none=>cases c with
    |some v=>exact rl.elim
    |none=>
     have i:L=0:=b;clear b
     try clear e
     subst i;simp[r5]
   |some v=>cases c with
    |none=>exact rl.elim
    |some o=>simp[r5,s0 (P:=P) rl b l]
 |some p=>
  cases f with
  |none=>exact g.elim
  |some q=>
   cases lo with
   |none=>cases c with
    |some v=>exact rl.elim
    |none=>
     have i:L=0:=b;clear b
     try clear e
     subst i;simp[r5,s0 (P:=P) g d (cH k m)]
   |some v=>cases c with
    |none=>exact rl.elim
    |some o=>simp[r5,s0 (P:=P) rl b l,s0 (P:=P) g d (cH k m)]
variable{r:V}
theorem zV{nt:Bool}{lo hi:Option V}{b d:Option Value}(rl:lB φ lo b)(e:lB φ hi d)(p:hi.isSome=true)(m:aL φ r x)(l:gy r=some a){f:Nat}
 (j:jL lo hi h a=some (L,f)) (k:a≤u) (w:World):(r5 nt h u b d (some x)).run P w=.ok (L,f,a) w:=by
 obtain⟨g,c,i,o⟩:=sw j;cases hi with
 |none=>simp at p
 |some q=>
  cases d with
  |none=>exact e.elim
  |some s=>
   cases lo with
   |none=>cases b with
    |some v=>exact rl.elim
    |none=>
     have n:L=0:=c;clear c
     try clear j
     subst n;simp[r5,s0 (P:=P) m l k,s0 (P:=P) e g i]
   |some v=>cases b with
    |none=>exact rl.elim
    |some t=>simp[r5,s0 (P:=P) m l k,s0 (P:=P) rl c o,s0 (P:=P) e g i]
variable{j:List UInt8}{G:aX}
theorem aqz(k:P.underlying g=some .string){lo hi:Option V}{e d:Option Value}(rl:lB φ lo e)(n:lB φ hi d)(a:vZ j lo hi=some G)(w:World):
 ∃v f,G=.val v∧(Instr.sliceAt g (.string ⟨⟨j⟩⟩) e d none).run P w=.ok f w∧aL φ v f:=by
 obtain⟨⟨l,h⟩,c,a⟩:=av.1 a;obtain⟨u,b,a⟩:=av.1 a;cases a;rw[gV]at c;have i:=s3 (P:=P) (nt:=false) rl n c (aF _);rw[eZ,kj]at b;split at b
 ·cases b;refine⟨_,.string ((⟨⟨j⟩⟩:ByteArray).extract l h),rfl,?_,?_⟩
  ·have m:(⟨⟨j⟩⟩:ByteArray).size=j.length:=rfl;simp only[Instr.sliceAt,Instr.slice,eg,run_underlying k,eH,m];simp[i]
  ·have:(⟨⟨j⟩⟩:ByteArray).extract l h=⟨⟨(j.drop l).take (h-l)⟩⟩:=by
    apply ByteArray.ext;simp[ByteArray.data_extract]
   rw[this];exact .str _
 ·cases b
theorem qO{e:TypeId}(hT:cT P T)(j:T.bt g=some (.slice e))(k:iV T e=some h){a:Option Addr}{d c f:Option Value}{l b m:Nat}
 (i:(r5 true u L d c f).run P q=.ok (l,b,m) q):
 (Instr.sliceAt g (.slice a u L) d c f).run P q=.ok (.slice (if m=l then a else a.map (·.add (l*h))) (b-l) (m-l)) q:=by
 simp only[Instr.sliceAt,Instr.slice,eg,run_underlying (hT.bt j),eH,i,l_ hT k,fZ]
theorem CG{n:Nat}{lo hi:Option V}(f:φ a=some Q)(d:qN a h u L n lo hi=some G):
 ∃v i b,G=.val v∧jL lo hi u L=some (i,b)∧aL φ v (.slice (if L=i then some ⟨Q.c,Q.base+h,none⟩else(some (⟨Q.c,Q.base+h,none⟩:Addr)).map (·.add (i*n))) (b-i) (L-i)):=by
 obtain⟨⟨i,b⟩,g,d⟩:=av.1 d;cases d;obtain⟨_,_,j,k⟩:=sw g;refine⟨_,i,b,rfl,g,?_⟩;by_cases e:L=i
 ·subst e;have:bn L L=true:=(beq_eq _ _).2 rfl;simp only[this,if_true];exact .slice f (by grind) rfl
 ·have:bn L i=false:=lq.2 (fun b=>e ((beq_eq _ _).1 b));simp only[this,aj e,Option.map_some,mz];have:Q.base+h+i*n=Q.base+(h+i*n):=aa;rw[this];exact .slice f (by grind) rfl
theorem aqv{k n:Nat}{lo hi:Option V}(g:φ a=some Q)(_:u≤L)(m:k≤L)(b:z3 a h u k lo hi=some G):
 ∃v i d,G=.val v∧jL lo hi u k=some (i,d)∧aL φ v (.slice (if L=i then some ⟨Q.c,Q.base+h,none⟩else(some (⟨Q.c,Q.base+h,none⟩:Addr)).map (·.add (i*n))) (d-i) (L-i)):=by
 obtain⟨⟨i,d⟩,f,b⟩:=av.1 b;obtain⟨e,b⟩:=cL.1 b;cases b;obtain⟨_,_,j,l⟩:=sw f;have e:i=0:=(beq_eq _ _).1 e;subst e;refine⟨_,0,d,rfl,f,?_⟩;have key:(if L=0 then some (⟨Q.c,Q.base+h,none⟩:Addr)else(some (⟨Q.c,Q.base+h,none⟩:Addr)).map (·.add (0*n)))=some ⟨Q.c,Q.base+h,none⟩:=by
  split
  ·rfl
  ·simp only[Option.map_some,mz,jg,cG]
 rw[key];exact .slice g aa (by show k≤L-0;omega)
theorem RB{n:Nat}{f:Cap}(l:f=.nx∨f=.grown n){lo hi:Option V}(k:φ a=some Q)(o:u≤L)(j:Kl f L h Q.ko)(d:v5 a h u f n lo hi=some G):
 ∃v i b,G=.val v∧jL lo hi u u=some (i,b)∧aL φ v (.slice (if L=i then some ⟨Q.c,Q.base+h,none⟩else(some (⟨Q.c,Q.base+h,none⟩:Addr)).map (·.add (i*n))) (b-i) (L-i)):=by
 obtain⟨⟨i,b⟩,g,d⟩:=av.1 d;obtain⟨_,_,q,r⟩:=sw g;have m:(i=0∨i<u)∨¬(i=0∨i<u):=Classical.em _;rcases m with hc|hc
 ·have e:or (fh i) (bL (Nat.succ i) u)=true:=by
   simp only[fh,tq,beq_eq,fB];exact hc
  simp only[e]at d;cases d;refine⟨_,i,b,rfl,g,?_⟩;have key:(if L=i then some (⟨Q.c,Q.base+h,none⟩:Addr)else(some (⟨Q.c,Q.base+h,none⟩:Addr)).map (·.add (i*n)))=some ⟨Q.c,Q.base+(h+i*n),none⟩:=by
   split
   ·grind
   ·grind [mz]
  rw[key];refine .slice k (by grind) ?_;rcases l with rfl|rfl
  ·trivial
  ·have p:h+L*n≤Q.ko:=j;show h+i*n+(L-i)*n≤Q.ko;have:(L-i)*n+i*n=L*n:=by rw[←eu];congr 1;omega
   omega
 ·have e:or (fh i) (bL (Nat.succ i) u)=false:=by
   apply lq.2;simp only[fh,ne_eq,tq,beq_eq,fB];exact hc
  simp only[e]at d;cases d;refine⟨_,i,b,rfl,g,?_⟩;have:b-i=0:=aa;rw[this];split
  ·exact .emp _ _
  ·simp only[Option.map_some];exact .emp _ _
end
section
variable {P:Program}{φ:aG}{ρ:Operand→Value}{dst:Option Tmp}{ty:TypeId}{pos:String}{after:Array Edge}{guard:Option (Nat×Bool)}{T:cc}
variable{G:aX}
theorem HJ{lo hi mx:Option Operand}(h:iK (k::cX (j7 lo) (cX (j7 hi) (j7 mx)))=some t)
 (u:jH φ m ρ (k::(lo.toList++hi.toList++mx.toList))) {g:V→Option V→Option V→Option V→Option aX} (i:slice3 g lo.isSome hi.isSome mx.isSome (vals t m)=some G):
 ∃a l h p,aL φ a (ρ k)∧lB φ l (lo.map ρ)∧lB φ h (hi.map ρ)∧lB φ p (mx.map ρ)∧(p.isSome=true→h.isSome=true)∧g a l h p=some G:=by
 have j:bp φ (vals t m) ((k::cX (j7 lo) (cX (j7 hi) (j7 mx))).map ρ):=oE h (fun y v f s=>u y (by
  cases lo<;>cases hi<;>cases mx<;>exact v) f s)
 generalize vals t m=l at j i
 cases lo<;>cases hi<;>cases mx
 ·cases j with|cons c b=>cases b;exact⟨_,none,none,none,c,trivial,trivial,trivial,aE,i⟩
 ·cases j with|cons c b=>cases b with|cons e d=>cases d;cases i
 ·cases j with|cons c b=>cases b with|cons e d=>cases d;exact⟨_,none,some _,none,c,trivial,e,trivial,aE,i⟩
 ·cases j with|cons c b=>cases b with|cons e d=>cases d with|cons o n=>cases n;exact⟨_,none,some _,some _,c,trivial,e,o,aE,i⟩
 ·cases j with|cons c b=>cases b with|cons e d=>cases d;exact⟨_,some _,none,none,c,e,trivial,trivial,aE,i⟩
 ·cases j with|cons c b=>cases b with|cons e d=>cases d with|cons o n=>cases n;cases i
 ·cases j with|cons c b=>cases b with|cons e d=>cases d with|cons o n=>cases n;exact⟨_,some _,some _,none,c,e,o,trivial,aE,i⟩
 ·cases j with|cons c b=>cases b with|cons e d=>cases d with|cons o n=>cases n with|cons q r=>cases r;exact⟨_,some _,some _,some _,c,e,o,q,aE,i⟩
theorem aqy{lo hi mx:Option Operand}(j:P.underlying g=some .string){a:V}{l h m:Option V}(b:aL φ a (ρ k))(rl:lB φ l (lo.map ρ))(q:lB φ h (hi.map ρ))(e:lB φ m (mx.map ρ))
 {n:Nat} (o:∃s,a=.str s) (d:z2 n a l h m=some G):fS P φ ρ ⟨dst,.slice g k lo hi mx,ty,pos,after,guard⟩ G:=by
 intro w;obtain⟨s,rfl⟩:=o;generalize p:ρ k=t at b
 cases b;cases m with
 |some m=>cases d
 |none=>
  cases c:mx.map ρ with
  |some m=>rw[c]at e;exact e.elim
  |none=>
   obtain⟨v,r,rfl,f,i⟩:=aqz (P:=P) j rl q d w;exact⟨r,by simp only[execOp,p,c];simp[f],i⟩
variable{u:Nat}{L:Nat}
theorem apC{a:Option Addr}(k:aL φ (.row u b) (.slice a u L)){l c:Option V}(g:x5 h u b l c none=some G):
 ∃v i hh,G=.val v∧jL l c u u=some (i,hh)∧u≤L∧aL φ v (.slice (if L=i then a else a.map (·.add (i*h))) (hh-i) (L-i)):=by
 obtain⟨⟨i,hh⟩,m,g⟩:=av.1 (show an (jL l c u u) _=some G from g);obtain⟨_,_,p,q⟩:=sw m;have n:u≤L:=by
  cases k with
  |fj=>omega
  |row _ _ _ c=>exact c
 have s:a=none→L=0:=by
  intro e;subst e;cases k with
  |fj _ _ c=>exact c rfl
 cases f:bn i hh with
 |true=>
  have d:Bool.casesOn (motive:=fun _=>Option aX) (bn i hh) (an (cj (ej b (eM i h)) (eM (jv hh i) h)) fun t=>some (.val (.row (jv hh i) t))) (some (aX.val (.row 0 [])))=some G:=g;rw[f]at d;cases d;rw[beq_eq]at f;subst f;refine⟨_,i,i,rfl,m,n,?_⟩;rw[m6];refine .fj _ _ ?_;intro e;cases a with
  |none=>grind
  |some a=>
   grind
 |false=>
  have d:Bool.casesOn (motive:=fun _=>Option aX) (bn i hh) (an (cj (ej b (eM i h)) (eM (jv hh i) h)) fun t=>some (.val (.row (jv hh i) t))) (some (aX.val (.row 0 [])))=some G:=g;rw[f]at d;obtain⟨t,j,d⟩:=av.1 (show an (cj (ej b (eM i h)) (eM (jv hh i) h)) (fun t=>some (aX.val (.row (jv hh i) t)))=some G from d);cases d;have r:i≠hh:=fun e=>by simp_all
  refine⟨_,i,hh,rfl,m,n,?_⟩;rw[aj aa];cases k with
  |fj=>omega
  |row hi o w _=>
   rw[eZ,kj]at j;split at j
   ·cases j;show aL φ (.row (hh-i) _) (.slice (some (Addr.add ⟨_,_,none⟩ (i*h))) (hh-i) (L-i));rw[mz];refine .row hi ((o.drop _).take _) ?_ aa
    grind
   ·cases j
theorem aqx{t e:TypeId}{x:Operand}{lo hi mx:Option Operand}{n:Nat}(hT:cT P T)(y:T.bt t=some (.slice e))(A:iV T e=some n){a:V}{l h m:Option V}(O:aL φ a (ρ x))(rl:lB φ l (lo.map ρ))(B:lB φ h (hi.map ρ))(u:lB φ m (mx.map ρ))
 (S:m.isSome=true→h.isSome=true) {r:aX} (hs:∀s,a≠ .str s) (d:z2 n a l h m=some r):fS P φ ρ ⟨dst,.slice t x lo hi mx,ty,pos,after,guard⟩ r:=by
 intro w;generalize g:ρ x=x' at O
 generalize z:mx.map ρ=E at u
 cases O<;>first|exact absurd rfl (hs _)|(cases d;done)|skip
 ·rename_i b o U ab j C L J K;cases m with
  |none=>
   cases E with
   |some q=>exact u.elim
   |none=>
    cases ab with
    |known k=>
     have X:j=k:=K;subst X;obtain⟨v,i,hh,rfl,f,p⟩:=CG L (show qN b o U j n l h=some r from d);have:=qO (P:=P) hT y A (a:=some ⟨C.c,C.base+o,none⟩) (s3 (nt:=true) rl B f (aF _) w);exact⟨_,by simp only[execOp,g,z];simp_all,p⟩
    |grown Z=>
     obtain⟨he,d⟩:=cL.1 (show aQ (bn Z n) (v5 b o U (.grown Z) n l h)=some r from d);rw[beq_eq]at he;subst he;obtain⟨v,i,hh,rfl,f,p⟩:=RB (.inr rfl) L J K d;have:=qO (P:=P) hT y A (a:=some ⟨C.c,C.base+o,none⟩) (s3 (nt:=true) rl B f J w);exact⟨_,by simp only[execOp,g,z];simp_all,p⟩
    |nx=>
     obtain⟨v,i,hh,rfl,f,p⟩:=RB (.inl rfl) L J K (show v5 b o U .nx n l h=some r from d);have:=qO (P:=P) hT y A (a:=some ⟨C.c,C.base+o,none⟩) (s3 (nt:=true) rl B f J w);exact⟨_,by simp only[execOp,g,z];simp_all,p⟩
    |least k=>
     have Q:k≤j:=K;obtain⟨v,i,hh,rfl,f,p⟩:=aqv L J Q (show z3 b o U k l h=some r from d);have:=qO (P:=P) hT y A (a:=some ⟨C.c,C.base+o,none⟩) (s3 (nt:=true) rl B f Q w);exact⟨_,by simp only[execOp,g,z];rw[eg,this];rfl,p⟩
  |some m=>
   cases E with
   |none=>exact u.elim
   |some Y=>
    obtain⟨G,F,d⟩:=av.1 (show an (gy m) _=some r from d);obtain⟨R,d⟩:=cL.1 d;rw[fB]at R;have ar:G≤j:=by
     cases ab with
     |known k=>have X:j=k:=K;subst X;exact R
     |grown Z=>grind
     |nx=>grind
     |least k=>grind
    obtain⟨v,i,hh,rfl,f,p⟩:=CG L d;have:=qO (P:=P) hT y A (a:=some ⟨C.c,C.base+o,none⟩) (zV (nt:=true) rl B (S rfl) u F f ar w);exact⟨_,by simp only[execOp,g,z];simp_all,p⟩
 ·obtain⟨⟨i,hh⟩,f,d⟩:=av.1 (show an (jL l h 0 0) _=some r from d);obtain⟨_,_,h3,h4⟩:=sw f;have H:hh=0:=aa;have I:i=0:=aa;subst H;subst I;cases m with
  |none=>
   cases E with
   |some q=>exact u.elim
   |none=>
    cases d;have:=qO (P:=P) hT y A (a:=none) (s3 (nt:=true) rl B f (aF _) w);exact⟨_,by simp only[execOp,g,z];rw[eg,this];rfl,by simpa using aL.ak⟩
  |some m=>
   cases E with
   |none=>exact u.elim
   |some Y=>
    obtain⟨G,F,d⟩:=av.1 d;obtain⟨M,d⟩:=cL.1 d;cases d;have N:G=0:=(beq_eq _ _).1 M;subst N;have:=qO (P:=P) hT y A (a:=none) (zV (nt:=true) rl B (S rfl) u F f (aF _) w);exact⟨_,by simp only[execOp,g,z];rw[eg,this];rfl,by simpa using aL.ak⟩
 ·rename_i D j;obtain⟨⟨i,hh⟩,f,d⟩:=av.1 (show an (jL l h 0 0) _=some r from d);obtain⟨_,_,h3,h4⟩:=sw f;have H:hh=0:=aa;have I:i=0:=aa;subst H;subst I;cases m with
  |none=>
   cases E with
   |some q=>exact u.elim
   |none=>
    cases d;have:=qO (P:=P) hT y A (a:=some D) (s3 (nt:=true) rl B f (b4 j) w);refine⟨_,by simp only[execOp,g,z];rw[eg,this];rfl,?_⟩;split
    ·exact .emp _ _
    ·exact .emp _ _
  |some m=>
   cases E with
   |none=>exact u.elim
   |some Y=>
    obtain⟨G,F,d⟩:=av.1 d;obtain⟨M,d⟩:=cL.1 d;cases d;have N:G=0:=(beq_eq _ _).1 M;subst N;have:=qO (P:=P) hT y A (a:=some D) (zV (nt:=true) rl B (S rfl) u F f (b4 j) w);refine⟨_,by simp only[execOp,g,z];rw[eg,this];rfl,?_⟩;split
    ·exact .emp _ _
    ·exact .emp _ _
 all_goals
  have al:∀ {k:Nat}{W:List V}{D:Option Addr}{j:Nat},aL φ (.row k W) (.slice D k j)→x5 n k W l h m=some r→ρ x=.slice D k j→(∃v,r=.val v∧∃v',(execOp ρ ⟨dst,.slice t x lo hi mx,ty,pos,after,guard⟩).run P w=.ok (.value v') w∧aL φ v v'):=by
   intro k W D j O d g;cases m with
   |none=>
    cases E with
    |some q=>exact u.elim
    |none=>
     obtain⟨v,i,hh,rfl,f,Q,p⟩:=apC O d;have:=qO (P:=P) hT y A (a:=D) (s3 (nt:=true) rl B f Q w);exact⟨v,rfl,_,by simp only[execOp,g,z];simp_all,p⟩
   |some m=>
    cases E with
    |none=>exact u.elim
    |some Y=>
     obtain⟨G,F,d⟩:=av.1 (show an (gy m) _=some r from d);obtain⟨M,d⟩:=cL.1 d;obtain⟨⟨i,hh⟩,f,d⟩:=av.1 d;cases d;have N:G=0:=(beq_eq _ _).1 M;subst N;obtain⟨_,_,h3,h4⟩:=sw f;have H:hh=0:=aa;have I:i=0:=aa;subst H;subst I;have:=qO (P:=P) hT y A (a:=D) (zV (nt:=true) rl B (S rfl) u F f (b4 j) w);exact⟨_,rfl,_,by simp only[execOp,g,z];rw[eg,this];rfl,.gT _⟩
 ·obtain⟨v,rfl,h⟩:=al (.fj _ _ (by assumption)) d g;exact h
 ·rename_i hi hc p R;obtain⟨v,rfl,h⟩:=al (.row hi hc p R) d g;exact h
theorem aqu{e:TypeId}{lo hi mx:Option Operand}(hT:cT P T)(B:T.bt g=some (.array u e))(F:iV T e=some h){a:V}{l j m:Option V}(y:aL φ a (ρ k))(rl:lB φ l (lo.map ρ))(A:lB φ j (hi.map ρ))(r:lB φ m (mx.map ρ))
 (D:m.isSome=true→j.isSome=true) (d:nD u h a l j m=some G):fS P φ ρ ⟨dst,.slice g k lo hi mx,ty,pos,after,guard⟩ G:=by
 intro w;generalize H:ρ k=J at y
 generalize E:mx.map ρ=x at r
 cases y<;>first|(cases d;done)|skip
 rename_i b o p n
 have key:∀ {i hh f:Nat},(r5 false u u (lo.map ρ) (hi.map ρ) x).run P w=.ok (i,hh,f) w→
  (execOp ρ ⟨dst,.slice g k lo hi mx,ty,pos,after,guard⟩).run P w=.ok (.value (.slice (if f=i then some ⟨p.c,p.base+o,none⟩else(some (⟨p.c,p.base+o,none⟩:Addr)).map (·.add (i*h))) (hh-i) (f-i))) w:=by
  intro i hh f n;simp only[execOp,H,E,Instr.sliceAt,wv];simp only[eg,run_underlying (hT.bt B),eH,fZ,n,l_ hT F]
  grind
 cases m with
 |none=>
  cases x with
  |some q=>exact r.elim
  |none=>
   obtain⟨v,i,hh,rfl,s,t⟩:=CG n (show qN b o u u h l j=some G from d);exact⟨_,key (s3 rl A s (aF _) w),t⟩
 |some m=>
  cases x with
  |none=>exact r.elim
  |some I=>
   obtain⟨f,C,d⟩:=av.1 (show an (gy m) _=some G from d);obtain⟨z,d⟩:=cL.1 d;rw[fB]at z;obtain⟨v,i,hh,rfl,s,t⟩:=CG n d;exact⟨_,key (zV rl A (D rfl) r C s z w),t⟩
end
section
variable {P:Program}{φ:aG}{ρ:Operand→Value}{dst:Option Tmp}{ty:TypeId}{pos:String}{after:Array Edge}{guard:Option (Nat×Bool)}{T:cc}
variable{y:Array TypeId}{G:aX}
theorem amm(c:y[0]? =some g)(d:P.underlying g=some .string){v:V}(b:aL φ v (ρ k))(a:zh v=some G):
 fS P φ ρ ⟨dst,.call ⟨.builtin .len,#[k],y⟩,ty,pos,after,guard⟩ G:=by
 intro w;generalize e:ρ k=f at b
 cases b<;>first|(cases a;done)|skip
 cases a;refine⟨_,?_,.int _ _⟩;simp only[execOp,resolve,invoke,builtin,Builtin.len_];simp[e,c,run_underlying d,goInt,gV];rfl
theorem amk{e:TypeId}(c:y[0]? =some g)(d:P.underlying g=some (.slice e)){v:V}(b:aL φ v (ρ k))(a:c3 v=some G):
 fS P φ ρ ⟨dst,.call ⟨.builtin .len,#[k],y⟩,ty,pos,after,guard⟩ G:=by
 intro w;generalize f:ρ k=h at b
 cases b<;>first|(cases a;done)|skip
 all_goals
  cases a;refine⟨_,?_,.int _ _⟩;simp only[execOp,resolve,invoke,builtin,Builtin.len_];simp[f,c,run_underlying d,goInt]
theorem amj{e:TypeId}(b:y[0]? =some g)(c:P.underlying g=some (.array a e)):
 fS P φ ρ ⟨dst,.call ⟨.builtin .len,#[k],y⟩,ty,pos,after,guard⟩ (.val (.int .i64 (.ofNat a))):=by
 intro w;refine⟨.int .i64 a,?_,.int _ _⟩;simp only[execOp,resolve,invoke,builtin,Builtin.len_];simp[b,run_underlying c,goInt]
theorem T_{e:TypeId}(d:y[0]? =some g)(f:P.underlying g=some (.slice e)){v:V}(h:aL φ v (ρ k))(a:yQ v=some G):
 fS P φ ρ ⟨dst,.call ⟨.builtin .cap,#[k],y⟩,ty,pos,after,guard⟩ G:=by
 intro w;generalize i:ρ k=s at h
 cases h<;>first|(cases a;done)|skip
 ·rename_i b o r j c l q p m;cases j<;>first|(cases a;done)|skip
  cases a;have n:c=_:=m;subst n;refine⟨.int .i64 c,?_,.int _ _⟩;simp only[execOp,resolve,invoke,builtin,Builtin.cap_];simp[i,d,run_underlying f,goInt]
 all_goals
  cases a;refine⟨.int .i64 0,?_,.int _ _⟩;simp only[execOp,resolve,invoke,builtin,Builtin.cap_];simp[i,d,run_underlying f,goInt]
theorem Ob{f:V→V→Option V}{n:Value→Value→Sem Value}(t:∀ {a b c:V}{d m:Value},aL φ a d→aL φ b m→f a b=some c→∀w,∃i,(n d m).run P w=.ok i w∧aL φ c i)(w:World):
 ∀ {l:List V}{g:List Value},bp φ l g→∀ {a v:V}{d:Value},aL φ a d→List.rec (motive:=fun _=>V→Option V) (fun a=>some a) (fun y _ j a=>an (f a y) j) l a=some v→
  ∃k,(g.foldlM n d).run P w=.ok k w∧aL φ v k:=by
 intro l;induction l with
 |nil=>intro g h a v d o e;cases h;simp_all
 |cons y l j=>
  intro g h a v d o e;cases h with
  |cons p q=>
   obtain⟨c,r,e⟩:=av.1 e;obtain⟨i,u,s⟩:=t o p r w;obtain⟨k,x,z⟩:=j q s e;simp_all
variable{r:V}
theorem am1{a c:V}{d:Value}(g:aL φ a x)(i:aL φ r d)(h:max2 a r=some c)(w:World):∃f,(Builtin.max2 x d).run P w=.ok f w∧aL φ c f:=by
 cases g<;>cases i<;>first|(cases h;done)|skip
 rename_i k b j y;cases h;refine⟨.int k (if y>b then y else b),by simp[Builtin.max2],?_⟩;by_cases hh:b<y
 ·have e:lH b y=true:=by rw[qw];simpa using hh
  rw[e,ao hh];exact .int _ _
 ·have e:lH b y=false:=by rw[qw];simpa using hh
  rw[e,aj hh];exact .int _ _
theorem am5{a c:V}{d:Value}(g:aL φ a x)(i:aL φ r d)(h:min2 a r=some c)(w:World):∃f,(Builtin.min2 x d).run P w=.ok f w∧aL φ c f:=by
 cases g<;>cases i<;>first|(cases h;done)|skip
 rename_i k b j y;cases h;refine⟨.int k (if y<b then y else b),by simp[Builtin.min2],?_⟩;by_cases hh:y<b
 ·have e:lH y b=true:=by rw[qw];simpa using hh
  rw[e,ao hh];exact .int _ _
 ·have e:lH y b=false:=by rw[qw];simpa using hh
  rw[e,aj hh];exact .int _ _
theorem am2{d:Array Operand}(hl:bp φ b (d.toList.map ρ))(c:rA max2 b=some G):fS P φ ρ ⟨dst,.call ⟨.builtin .max,d,y⟩,ty,pos,after,guard⟩ G:=by
 intro w;cases b with
 |nil=>cases c
 |cons a b=>
  generalize j:d.toList.map ρ=m at hl
  cases hl with
  |cons e f=>
   obtain⟨v,k,c⟩:=av.1 (show an _ (fun v=>some (aX.val v))=some G from c);cases c;obtain⟨o,l,n⟩:=Ob (fun g h i w=>am1 (P:=P) g h i w) w f e k;refine⟨o,?_,n⟩;simp only[execOp,resolve,invoke,builtin,Builtin.max_];simp[j,l]
theorem am6{d:Array Operand}(hl:bp φ b (d.toList.map ρ))(c:rA min2 b=some G):fS P φ ρ ⟨dst,.call ⟨.builtin .min,d,y⟩,ty,pos,after,guard⟩ G:=by
 intro w;cases b with
 |nil=>cases c
 |cons a b=>
  generalize j:d.toList.map ρ=m at hl
  cases hl with
  |cons e f=>
   obtain⟨v,k,c⟩:=av.1 (show an _ (fun v=>some (aX.val v))=some G from c);cases c;obtain⟨o,l,n⟩:=Ob (fun g h i w=>am5 (P:=P) g h i w) w f e k;refine⟨o,?_,n⟩;simp only[execOp,resolve,invoke,builtin,Builtin.min_];simp[j,l]
theorem JW(s:List UInt8):bp φ (lmap (fun b=>V.int .u8 (.ofNat b.toNat)) s) (s.map fun b=>Value.int .u8 b.toNat):=by
 induction s with
 |nil=>exact .nil
 |cons b s a=>exact .cons (.int _ _) a
theorem ard{d e:TypeId}(D:P.underlying g=some .string)(y:P.underlying d=some (.slice e))(z:P.underlying e=some (.int .u8)){v:V}(a:aL φ v (ρ k))(j:z_ [v]=some G):
 fS P φ ρ ⟨dst,.convert g d k,ty,pos,after,guard⟩ G:=by
 intro w;generalize E:ρ k=K at a
 cases a<;>first|(cases j;done)|skip
 rename_i u;cases j;have x:u.length≤grownCap w u.length 0 e:=grownCap_ge w _ 0 e;have C:=run_bytes_of_string (P:=P) w g d e ⟨⟨u⟩⟩ D y z;have m:(⟨⟨u⟩⟩:ByteArray).size=u.length:=rfl;rw[m]at C;have A:(bytesRow ⟨⟨u⟩⟩ (grownCap w u.length 0 e)).size=grownCap w u.length 0 e:=by
  simp[bytesRow,m];omega
 have l:=JW (φ:=φ) u;have r:∀i,i<u.length→(bytesRow ⟨⟨u⟩⟩ (grownCap w u.length 0 e))[i]? =(u.map fun b=>Value.int .u8 b.toNat)[i]? :=by
  intro i hi;rw[bytesRow_at _ _ _ (by simpa using hi)];simp[hi]
 generalize bytesRow ⟨⟨u⟩⟩ (grownCap w u.length 0 e)=B at*
 refine⟨.slice (some ⟨w.heap.size,0,none⟩) u.length (grownCap w u.length 0 e),w.drew.alloc (.cells B e (B.size,B.size+1)),grownCap w u.length 0 e,by simp only[execOp,E];simp_all,⟨aE,fun c J=>?_,⟨rfl,rfl,rfl,fun h=>(hU.alloc w.drew _).free h,fun c n t p h=>(hU.alloc w.drew _).shape c n t p h⟩,_,rfl,?_,fun i v a=>?_,fun i hi=>⟨?_,?_⟩⟩,fun H b s=>?_⟩
 ·show(w.heap.push _)[c]? =_
  grind
 ·have I:=l.length
  grind
 ·obtain⟨F,f,q⟩:=l.get i v a;refine⟨F,?_,q⟩;have hi:i<u.length:=by
   have:=(gZ.1 f).1;simpa using this
  exact(World.cell?_alloc_mark w.drew B e (B.size,B.size+1) i).trans ((r i hi).trans f)
 ·exact⟨B[i]'aa,(World.cell?_alloc_mark w.drew B e (B.size,B.size+1) i).trans (by simp[A,hi])⟩
 ·refine(World.frozen?_alloc_mark w.drew B e B.size (B.size+1) i).trans ?_
  grind
 ·have o:cn u=u.length:=gV u;show aL H (.slice b 0 (cn u) .nx) _;rw[o];exact .slice s x trivial
end
section
variable {P:Program}{φ:aG}{ρ:Operand→Value}{dst:Option Tmp}{ty:TypeId}{pos:String}{after:Array Edge}{guard:Option (Nat×Bool)}{T:cc}
theorem anG:Extern.allNextRows.lookup "math/bits.Add64"=none:=by kernel_rfl
theorem anI:Extern.allNextRows.lookup "math/bits.Sub64"=none:=by kernel_rfl
theorem PR:Extern.allNextRows.lookup ""=none:=by kernel_rfl
theorem ahY:Extern.allGenericRows.lookup "math/bits.Add64"=none:=by kernel_rfl
theorem ahZ:Extern.allGenericRows.lookup "math/bits.Sub64"=none:=by kernel_rfl
theorem arA:Extern.allTypedRows.lookup "math/bits.Add64"=none:=by kernel_rfl
theorem arB:Extern.allTypedRows.lookup "math/bits.Sub64"=none:=by kernel_rfl
theorem apD:Extern.allRows.lookup "math/bits.Add64"=Extern.MathBitsCarry.rows.lookup "math/bits.Add64":=by kernel_rfl
theorem apI:Extern.allRows.lookup "math/bits.Sub64"=Extern.MathBitsCarry.rows.lookup "math/bits.Sub64":=by kernel_rfl
variable{A:FuncId}{y:Array TypeId}
theorem Kg{a:Func}(k:ρ (.func A)=.func (.func A) #[] #[]) (h:P.funcs[A]? =some a) (f:a.body=none) (i:(a.name== "runtime.NumGoroutine")=false) (c:Extern.findNext a=none) {e:Array Value→Sem Value} (d:Extern.find a=some e) {b:Array Operand}{v:Value}
 (g:(e (b.map ρ)).run P q=.ok v q):(execOp ρ ⟨dst,.call ⟨.value (.func A),b,y⟩,ty,pos,after,guard⟩).run P q=.ok (.value v) q:=by
 simp only[execOp,resolve,k,Deferred.ofValue,invoke,callFunc];have j:¬a.name= "runtime.NumGoroutine":=by simpa using i
 simp[h,j,f,c,d,g]
def DB(a:Array Value):Sem Value:=do
 let(x,y,c)←Extern.MathBitsCarry.three "Add64" a
 pure (Extern.MathBitsCarry.pair ((x+y+c)%Extern.MathBitsCarry.m64) ((x+y+c)/Extern.MathBitsCarry.m64))
def HQ(a:Array Value):Sem Value:=do
 let(x,y,b)←Extern.MathBitsCarry.three "Sub64" a
 pure (Extern.MathBitsCarry.pair ((x+Extern.MathBitsCarry.m64-y-b)%Extern.MathBitsCarry.m64) (if x<y+b then 1 else 0))
theorem amI:Extern.MathBitsCarry.rows.lookup "math/bits.Add64"=some DB:=rfl
theorem amJ:Extern.MathBitsCarry.rows.lookup "math/bits.Sub64"=some HQ:=rfl
theorem RX(d:String)(a b c:Nat)(f:c≤1)(w:World):(Extern.MathBitsCarry.three d ⟨[.int .u64 (a:Int),.int .u64 (b:Int),.int .u64 (c:Int)]⟩).run P w=.ok (a,b,c) w:=by
 have e:Extern.MathBitsCarry.three d ⟨[.int .u64 (a:Int),.int .u64 (b:Int),.int .u64 (c:Int)]⟩=(do
  let c:=(←asInt (.int .u64 (c:Int))).toNat
  if c>1 then unsupported (.noEntry ("extern/math/bits."++d++ ": a carry that is neither 0 nor 1"))
  pure ((←asInt (.int .u64 (a:Int))).toNat,(←asInt (.int .u64 (b:Int))).toNat,c):Sem (Nat×Nat×Nat)):=rfl
 rw[e];simp[asInt,asIntOf];omega
theorem PK{t:Nat×Nat×Nat}(h:zv b=some t):b=[.int .u64 (t.1:Int),.int .u64 (t.2.1:Int),.int .u64 (t.2.2:Int)]:=by
 have e:∀ {v:V}{n:Nat},Ah v=some n→v=.int .u64 (n:Int):=by
  intro v n h;cases v with
  |int k m=>cases k<;>cases m<;>first|(cases h;done)|(cases h;rfl)
  |_=>cases h
 match b,h with
 |[a,d,c],h=>
  obtain⟨x,f,h⟩:=av.1 (show an (Ah a) _=some t from h);obtain⟨y,g,h⟩:=av.1 h;obtain⟨z,i,h⟩:=av.1 h
  grind
 |[],h=>cases h
 |[_],h=>cases h
 |[_,_],h=>cases h
 |_::_::_::_::_,h=>cases h
variable{D:List V→Option aX}{G:aX}
theorem ag7{f:Func}(B:ρ (.func A)=.func (.func A) #[] #[]) (x:P.funcs[A]? =some f) (v:f.body=none) (z:f.origin= "") (g:FA f.name=some D) {c:Array Operand}
 (hl:bp φ b (c.toList.map ρ)) (a:D b=some G):fS P φ ρ ⟨dst,.call ⟨.value (.func A),c,y⟩,ty,pos,after,guard⟩ G:=by
 intro w;have j:c.map ρ=⟨c.toList.map ρ⟩:=by apply uM;simp
 unfold FA at g;split at g
 ·rename_i d;cases g;obtain⟨t,u,a⟩:=av.1 (show an (zv b) _=some G from a);obtain⟨i,a⟩:=cL.1 a;cases a;rw[fB]at i;have:=PK u;subst this;have r:c.toList.map ρ=[.int .u64 (t.1:Int),.int .u64 (t.2.1:Int),.int .u64 (t.2.2:Int)]:=by
   generalize c.toList.map ρ=m at hl
   cases hl with|cons k l=>cases l with|cons n o=>cases o with|cons p q=>cases q;cases k;cases n;cases p;rfl
  rw[r]at j;refine⟨.tuple ⟨[.int .u64 (((t.1+t.2.1+t.2.2)%18446744073709551616:Nat):Int),.int .u64 (((t.1+t.2.1+t.2.2)/18446744073709551616:Nat):Int)]⟩,?_,.aA (.cons (.int _ _) (.cons (.int _ _) .nil))⟩;have s:Extern.find f=some DB:=by
   simp[Extern.find,d,ahY,arA,apD,amI]
  refine Kg B x v (by rw[d];decide) (by simp[Extern.findNext,d,z,anG,PR]) s ?_;rw[j];simp only[DB,eg,RX _ _ _ _ i,eH,fZ];rfl
 ·split at g
  ·rename_i d;cases g;obtain⟨t,u,a⟩:=av.1 (show an (zv b) _=some G from a);obtain⟨i,a⟩:=cL.1 a;cases a;rw[fB]at i;have:=PK u;subst this;have r:c.toList.map ρ=[.int .u64 (t.1:Int),.int .u64 (t.2.1:Int),.int .u64 (t.2.2:Int)]:=by
    generalize c.toList.map ρ=m at hl
    cases hl with|cons k l=>cases l with|cons n o=>cases o with|cons p q=>cases q;cases k;cases n;cases p;rfl
   rw[r]at j;have s:Extern.find f=some HQ:=by
    simp[Extern.find,d,ahZ,arB,apI,amJ]
   refine⟨.tuple ⟨[.int .u64 (((t.1+18446744073709551616-t.2.1-t.2.2)%18446744073709551616:Nat):Int),.int .u64 ((if t.1<t.2.1+t.2.2 then 1 else 0:Nat):Int)]⟩,?_,?_⟩
   ·refine Kg B x v (by rw[d];decide) (by simp[Extern.findNext,d,z,anI,PR]) s ?_;rw[j];simp only[HQ,eg,RX _ _ _ _ i,eH,fZ];rfl
   ·refine .aA (.cons (.int _ _) (.cons ?_ .nil));by_cases h:t.2.1+t.2.2≤t.1
    ·have e:bL (gF t.2.1 t.2.2) t.1=true:=(fB _ _).2 h;rw[e,aj aa];exact .int _ _
    ·have e:bL (gF t.2.1 t.2.2) t.1=false:=lq.2 (fun hh=>h ((fB _ _).1 hh));rw[e,ao aa];exact .int _ _
  ·cases g
end
section
variable {P:Program}{φ:aG}{ρ:Operand→Value}{dst:Option Tmp}{ty:TypeId}{pos:String}{after:Array Edge}{guard:Option (Nat×Bool)}{T:cc}
theorem ajc(a:P.underlying g=some C)(b:tZ C=true)(w:World):(isAgg g).run P w=.ok false w:=by
 have c:=run_underlying a w;cases C<;>first|(cases b;done)|simp[isAgg,c]
theorem zG(a:P.underlying g=some C)(b:tZ C=true){cs:Array Value}{i:Nat}{v:Value}(h:cs[i]? =some v)(w:World):(part g cs i).run P w=.ok v w:=by
 simp[part,ajc a b,h]
variable{r:V}
theorem Km(i:P.underlying g=some C){y:V}{e:Value}(l:aL φ r x)(m:aL φ y e)(h:vc C r y=some n)(o:Nat)(w:World):(Op.equalIn (o+1) g x e).run P w=.ok n w:=by
 have j:=run_underlying i w;cases C<;>first|(cases h;done)|skip
 case int=>
  cases l<;>first|(cases h;done)|skip
  cases m<;>first|(cases h;done)|skip
  rename_i k a d b;obtain⟨c,h⟩:=cL.1 (show aQ (g8 k d) (some (lX a b))=some n from h);cases h;rw[vA]at c;have f:k=d:=by simpa using c
  simp only[Op.equalIn,eg,j,eH,f,if_true,fZ,qv];rfl
theorem D7{ds:List TypeDesc}{c:List V}(h:m9 (C::ds) b c=some n):
 ∃x e y f a d,b=x::e∧c=y::f∧vc C x y=some a∧m9 ds e f=some d∧n=and a d:=by
 cases b with
 |nil=>cases h
 |cons x b=>cases c with
  |nil=>cases h
  |cons y c=>
   obtain⟨a,g,h⟩:=av.1 (show an (vc C x y) (fun n=>an (m9 ds b c) fun s=>some (and n s))=some n from h);obtain⟨d,i,h⟩:=av.1 h
   grind
theorem y2{l:List f}{a:f}{r:List f}(b:l.drop h=a::r):l[h]? =some a∧l.drop (h+1)=r:=by
 have c:(l.drop h)[0]? =some a:=by rw[b];rfl
 rw[uR]at c;refine⟨c,?_⟩;have:=congrArg (List.drop 1) b
 grind [List.drop_drop]
theorem bp.cons_inv(h:bp φ (r::b) E):∃c d,E=c::d∧aL φ r c∧bp φ b d:=by
 cases h with
 |cons a e=>grind
theorem aje(hT:cT P T)(f:T.bt g=some C)(m:tZ C=true)(n:Nat)(k l:List Value)(w:World):∀(e i:Nat) (c d:List V) (r:Bool),bp φ c (k.drop i)→bp φ d (l.drop i)→m9 (zS C e) c d=some r→
 (do let q←forIn (tB i e) ((none:Option Bool),()) (fun j _=>do
      let b←Op.equalIn (n+1) g (←part g ⟨k⟩ (j*1)) (←part g ⟨l⟩ (j*1))
      if(!b)=true then pure (ForInStep.done (some false,()))else pure (ForInStep.yield (none,())))
     match q.1 with
     |some a=>pure a
     |none=>pure true:Sem Bool).run P w=.ok r w:=by
 intro e;induction e with
 |zero=>
  intro i c d r _ _ h;have A:m9 [] c d=some r:=h;cases c<;>cases d<;>cases A;simp
 |succ e K=>
  intro i c d r B G h;obtain⟨x,c,y,d,a,b,rfl,rfl,t,u,rfl⟩:=D7 (show m9 (C::zS C e) c d=some r from h);obtain⟨O,R,F,D,E⟩:=B.cons_inv;obtain⟨Q,S,J,H,I⟩:=G.cons_inv;obtain⟨v,p⟩:=y2 F;obtain⟨z,s⟩:=y2 J;have o:=K (i+1) c d b (by rw[p];exact E) (by rw[s];exact I) u;have L:=zG (hT.bt f) m (cs:=⟨k⟩) (i:=i*1) (v:=O) (by simpa using v) w;have M:=zG (hT.bt f) m (cs:=⟨l⟩) (i:=i*1) (v:=Q) (by simpa using z) w;have N:=Km (hT.bt f) D H t n w;rw[List.range'_succ,List.forIn_cons];simp only[eg,L,M,N,eH]at o⊢;cases a
  ·simp
  ·simpa using o
theorem S8(hT:cT P T){ds:List TypeDesc}(a:wO T g=some ds){c:List V}{f:List Value}(r:bp φ b E)(s:bp φ c f)(h:m9 ds b c=some n)(w:World):
 (Op.equal g (.agg ⟨E⟩) (.agg ⟨f⟩)).run P w=.ok n w:=by
 obtain⟨d,m,a⟩:=av.1 (show an (T.bt g) _=some ds from a);have q:=hT.bt m;unfold Op.equal;cases d<;>first|(cases a;done)|skip
 case array t e=>
  obtain⟨u,o,a⟩:=av.1 (show an (T.bt e) _=some ds from a);obtain⟨k,a⟩:=cL.1 a;obtain⟨i,l,a⟩:=av.1 a;obtain⟨j,a⟩:=cL.1 a;cases a;rw[beq_eq]at j;have p:(sizeOf e).run P w=.ok 1 w:=by
   have:=qL (hT.info e i l) w;simp[sizeOf,this,j]
  rw[show Op.maxDepth=9998+1+1 from rfl];have:=aje hT o k 9998 E f w t 0 b c n r s h;unfold Op.equalIn;simp only[eg,run_underlying q,eH,p];simp at this⊢
  grind
theorem avd(hT:cT P T)(a:T.bt g=some C)(b:tZ C=true)(n:Nat)(x y:Value)(w:World):(Op.eqGuardIn (n+1) g x y).run P w=.ok false w:=by
 have c:=run_underlying (hT.bt a) w;cases C<;>first|(cases b;done)|simp[Op.eqGuardIn,c]
theorem ap4(f:P.underlying g=some C){y:V}{d:Value}(a:aL φ r x)(b:aL φ y d)(h:HA C r y=some n)(c:Nat)(w:World):(Op.equalIn (c+1) g x d).run P w=.ok n w:=by
 by_cases e:C=.string
 ·subst e;cases a<;>first|(cases h;done)|skip
  cases b<;>first|(cases h;done)|skip
  cases h
  grind [run_equalIn_string,Gf,ByteArray.toList_eq]
 ·refine Km f a b (h▸?_) c w;cases C<;>first|rfl|exact absurd rfl e
theorem N0(n:Nat)(k l:List Value)(w:World):∀(j:List Field) (ds:List TypeDesc) (i:Nat) (c e:List V) (r:Bool),Aq P j ds i=true→bp φ c (k.drop i)→bp φ e (l.drop i)→CC ds c e=some r→
 (Op.eqFields (n+1) ⟨k⟩ ⟨l⟩ j).run P w=.ok r w
 |[],[],_,_,_,_,_,_,_,h=>by cases h;rfl
 |[],_::_,_,_,_,_,h,_,_,_=>by cases h
 |_::_,[],_,_,_,_,h,_,_,_=>by cases h
 |f::j,d::ds,i,c,e,r,q,D,H,h=>by
  rw[Aq,cC,cC,cC,beq_eq]at q;obtain⟨m,o,g,C⟩:=q;have m:f.name≠ "_":=by simpa using m
  have o:f.offset=i:=by simpa using o
  have g:=aq4 g;cases c<;>first|(cases h;done)|skip
  cases e<;>first|(cases h;done)|skip
  rename_i x c y e;obtain⟨a,p,h⟩:=av.1 (show an (HA d x y) (fun r=>an (CC ds c e) fun s=>some (and r s))=some r from h);obtain⟨b,z,h⟩:=av.1 h;cases h;have t:tZ d=true:=by cases d<;>first|rfl|cases p
  obtain⟨Q,S,G,E,F⟩:=D.cons_inv;obtain⟨R,T,K,I,J⟩:=H.cons_inv;obtain⟨A,u⟩:=y2 G;obtain⟨B,v⟩:=y2 K;subst o;have L:=N0 n k l w j ds (f.offset+1) c e b C (by rw[u];exact F) (by rw[v];exact J) z;have M:=zG g t (cs:=⟨k⟩) (i:=f.offset) (v:=Q) (by simpa using A) w;have N:=zG g t (cs:=⟨l⟩) (i:=f.offset) (v:=R) (by simpa using B) w;have O:=ap4 g E I p n w;simp only[Op.eqFields,ne_eq,m,not_false_eq_true,if_true,eg,M,N,O,eH];cases a
  ·simp
  ·simpa using L
variable{G:aX}
theorem anC(hT:cT P T){z:TypeId}{y:Operand}{ds:List TypeDesc}(m:T.x4 g=some ds){a:V}(b:aL φ a (ρ k))(c:aL φ r (ρ y))(h:wP ds [a,r]=some G):
 fS P φ ρ ⟨dst,.binOp .neq g k y z,ty,pos,after,guard⟩ G:=by
 generalize n:ρ k=A at b
 generalize o:ρ y=B at c
 cases b<;>first|(cases h;done)|skip
 cases c<;>first|(cases h;done)|skip
 rename_i d v f e x i;obtain⟨q,j,h⟩:=av.1 (show an (CC ds d e) (fun G=>h_ (!G))=some G from h);cases h;intro w;obtain⟨p,s,t,u⟩:=hT.x4 g ds m;have l:=N0 9998 v x w _ ds 0 d e q u f i j;refine⟨.bool (!q),?_,.bool _⟩;simp only[execOp,n,o,eg,run_eqGuard_agg w .neq g k y _ _ t,eH,run_neq_struct,run_equalIn_agg w 9999 g _ _ p s,l,fZ]
end
section
variable {P:Program}{φ:aG}{H:af}{w:World}{T:cc}{ρ:Operand→Value}{dst:Option Tmp}{ty:TypeId}{pos:String}{after:Array Edge}{guard:Option (Nat×Bool)}
theorem ah4(a:Nat):∀r c,c≤a→Builtin.growBy a r c≤2*a+200:=by
 intro r;induction r with
 |zero=>intro c b;simp[Builtin.growBy];omega
 |succ r d=>
  intro c b;unfold Builtin.growBy;split
  ·omega
  ·by_cases h:c+(c+768)/4≤a
   ·exact d _ h
   ·have:∀r c,a≤c→Builtin.growBy a r c=c:=by
     intro r c b;cases r with
     |zero=>rfl
     |succ r=>unfold Builtin.growBy;rw[ao b]
    grind
theorem nextslicecap_le{need old:Nat}(h:old<need):Builtin.nextslicecap need old≤2*need+200:=by
 unfold Builtin.nextslicecap
 grind [ah4]
variable{o:IntKind}{y:Array TypeId}
theorem Tl{st:TypeId}(s:P.underlying st=some (.slice g)){i:TypeInfo}(hi:P.info? g=some i)(v:i.zero=some x)(z:x.cells.size=i.size){d ty:TypeId}(u:P.underlying d=some (.int o))
 (j:y[0]? =some st) (b:y[1]? =some d) {kx:IntKind} (H:0<a) (D:a≤1099511627776) (E:a*i.bytes≤1099511627776):
 ∃c,a≤c∧(Builtin.append_ y ty #[.slice none 0 0,.int kx (a:Int)]).run P w=.ok (.slice (some ⟨w.heap.size,0,none⟩) a c) (w.drew.alloc (.cells (Builtin.zeroCells x.cells a++Builtin.zeroCells x.cells (c-a)) g)):=by
 have r:∀w,(sizeOf g).run P w=.ok i.size w:=by intro w;simp[sizeOf,qL hi]
 have e:(#[Value.slice none 0 0,.int kx (a:Int)]:Array Value)[0]? =some (.slice none 0 0):=rfl;have f:(#[Value.slice none 0 0,.int kx (a:Int)]:Array Value)[1]? =some (.int kx (a:Int)):=rfl;have q:¬(0+a≤0):=aa;have n:¬(((0+a:Nat):Int)>IntKind.i64.max):=by
  have:IntKind.i64.max=9223372036854775807:=ag;rw[this];omega
 have t:IntKind.i64.wrap (a:Int)=a:=by simp[r6,p5,p6];omega
 have p:¬((a:Int)<0):=aa;have k:¬((a:Int)*(i.bytes:Int)>2^48):=by
  have:((a*i.bytes:Nat):Int)≤1099511627776:=aa;rw[fY]at this;omega
 have l:¬(Builtin.nextslicecap (0+a) 0*i.bytes>2^48):=by
  have b:=nextslicecap_le (need:=0+a) (old:=0) aa;have A:Builtin.nextslicecap (0+a) 0*i.bytes≤(2*(0+a)+200)*i.bytes:=ee _ b;have B:(2*(0+a)+200)*i.bytes=2*(a*i.bytes)+200*i.bytes:=by grind
  have C:i.bytes≤a*i.bytes:=Nat.le_mul_of_pos_left _ aa;omega
 let c:=Question.cut (.appendCap (0+a) 0 g) (w.tape w.drawn (.appendCap (0+a) 0 g));have F:0+a≤c:=sg _ _;have m:(choose (.appendCap (0+a) 0 g)).run P w=.ok c { w with drawn:=w.drawn+1 }:=by simp[Question.forced,c]
 refine⟨c,aa,?_⟩;have G:a*i.size=0→Builtin.zeroCells x.cells a=#[]:=fun h=>by
  simp[Builtin.zeroCells,z,h]
 unfold Builtin.append_;simp only[j,b,e,f,eg,run_underlying s,eH,r,run_underlying u,fZ,if_true,asInt,asIntOf,t,aj p,qL hi,aj k,bH];simp only[aj q,n,false_and,if_false,eg,fZ,eH,qL hi,aj l,m,run_askRoom,s4 hi v,newRow,run_newObj,fX,iM];have I:∀w:World,(Builtin.firstCells i.size 0 (.slice none 0 0)).run P w=.ok #[] w:=fun w=>rfl
 simp_all [ao,aj,eg,s4,eH,fZ,eJ]
theorem anE{a:List V}{w:World}(c:tG φ (.cells (a++b) 0) h w q):tG φ (.cells a 0) h w q:=by
 obtain⟨d,e,f,l,g,m,j,k⟩:=c;cases g;refine⟨d,e,f,a,rfl,?_,fun i v n=>j i v ?_,k⟩
 ·grind
 grind
theorem anD{a:Array Value}(h:bp φ b a.toList)(w:World)(e:TypeId):tG φ (.cells b 0) a.size w (w.drew.alloc (.cells a e)):=
 have h:=zx h w.drew e
 ⟨h.size,h.old,⟨rfl,rfl,rfl,fun x=>h.same.free x,fun c b t d x=>h.same.shape c b t d x⟩,h.obj⟩
variable{r:V}{G:aX}
theorem Tk(hT:cT P T){st v:TypeId}{i:TypeInfo}(J:T.bt st=some (.slice g))(hi:T.info g=some i)(M:zeroCells T g=some b)(U:b.length=i.size)
 (K:T.bt v=some (.int o)) (A:y[0]? =some st) (B:y[1]? =some v) {x:Operand}{d:V} (q:aL φ r (ρ k)) (s:aL φ d (ρ x)) (h:yJ i.bytes b [r,d]=some G):
 fS P φ ρ ⟨dst,.call ⟨.builtin .append,#[k,x],y⟩,ty,pos,after,guard⟩ G:=by
 intro w;generalize I:ρ k=W at q
 generalize L:ρ x=X at s
 cases q<;>first|(cases h;done)|skip
 obtain⟨n,F,h⟩:=av.1 (show an (gy d) _=some G from h);obtain⟨a,h⟩:=cL.1 h;cases h;rw[cC,fB]at a;obtain⟨D,a⟩:=a;have j:n≤1099511627776∧n*i.bytes≤1099511627776:=by
  have e:=(cC _ _).mp (show and (bL n 1099511627776) (bL (eM n i.bytes) 1099511627776)=true from a);exact⟨(fB _ _).1 e.1,(fB _ _).1 e.2⟩
 obtain⟨Q,rfl⟩:=u5 F;cases s;obtain⟨t,z,l,N,p⟩:=yu hT M;have E:t=i:=by have:=hT.info g i hi;rw[l]at this;exact Option.some.inj this
 subst E;have O:z.cells.size=t.size:=by have:=(p φ).length;simp at this;omega
 obtain⟨c,f,H⟩:=Tl (P:=P) (w:=w) (ty:=ty) (hT.bt J) l N O (hT.bt K) A B (kx:=Q) (show 0<n from D) j.1 j.2;have u:∀m,bp φ (rep b m) (Builtin.zeroCells z.cells m).toList:=fun m=>Hf (p φ) m
 have R:bp φ (rep b n++rep b (c-n)) (Builtin.zeroCells z.cells n++Builtin.zeroCells z.cells (c-n)).toList:=by
  rw[Array.toList_append];exact(u n).append (u (c-n))
 refine⟨.slice (some ⟨w.heap.size,0,none⟩) n c,_,_,?_,anE (anD R w g),fun Y S C=>.slice C f f⟩;simp only[execOp,resolve,invoke,builtin];simp[I,L,H]
end
theorem Tt{x y z:bQ}(h:Bool.casesOn (motive:=fun _=>bQ) n x y=z):x=z∨y=z:=by cases n<;>grind
theorem TG{x y z:Option bQ}(h:Bool.casesOn (motive:=fun _=>Option bQ) n x y=z):x=z∨y=z:=by cases n<;>grind
theorem an1{o:Option f}{x z:Option bQ}{a:f→Option bQ}(h:Option.casesOn (motive:=fun _=>Option bQ) o x a=z):x=z∨∃b,a b=z:=by cases o<;>grind
theorem dead{p q:Prop}(hc:p)(h:p→q:=by
 intro hc
 repeat' (first|(cases hc;done)|(obtain⟨_,hc⟩:=cL.1 hc)|(obtain⟨_,_,hc⟩:=av.1 hc)|(replace hc:=dZ hc aE)|(rcases an1 hc with hc|⟨_,hc⟩)|(rcases TG hc with hc|hc)|(replace hc:=Option.some.inj hc)|(rcases Tt hc with hc|hc)|(split at hc)|(unfold Ke at hc)|(unfold ry at hc)|(unfold wS at hc)|(unfold AH at hc)|(unfold DQ at hc)|(unfold DR at hc))):q:=h hc
def jV(P:Program)(N:eT):Prop:=∀f a,N.get none f=some a→P.funcs[f]? =some a
section
variable {P:Program}{φ:aG}{ρ:Operand→Value}{T:cc}{N:eT}{F:Fr}
theorem pG{f:Fr→V}(a:jH φ F ρ [k])(h:hH k=some f):aL φ (f F) (ρ k):=a k aE f h
theorem yj{y:Operand}(e:jH φ F ρ [k,y])(h:iK [k,y]=some t):∃a b,vals t F=[a,b]∧aL φ a (ρ k)∧aL φ b (ρ y):=by
 have:=oE h e;generalize vals t F=l at this
 cases this with
 |cons f c=>cases c with
  |cons g d=>cases d;grind
theorem lk{a:Array f}{x:f}(b:cO a.toList h=some x):a[h]? =some x:=by grind [gO]
variable{D:List V→Option aX}{G:aX}
theorem aoE{l:BinOp}{x:TypeId}{y:Operand}{s:Option Tmp}{w:TypeId}{v:String}{after:Array Edge}{guard:Option (Nat×Bool)}(hT:cT P T){r:List (Fr→V)}
 (h:iK [k,y]=some r) (c:wS T l g r=.pu t D) (z:jH φ F ρ [k,y]) (e:D (vals t F)=some G):fS P φ ρ ⟨s,.binOp l g k y x,w,v,after,guard⟩ G:=by
 unfold wS at c;obtain⟨a,b,o,i,j⟩:=yj z h;split at c
 ·rename_i M m;split at c
  ·rename_i f n;cases c;rw[o]at e;generalize p:ρ k=B at i
   generalize q:ρ y=C at j
   cases i<;>first|(cases e;done)|skip
   cases j<;>first|(cases e;done)|skip
   exact aja n e p q
  ·cases c
 ·split at c
  ·rename_i f n;cases c;rw[o]at e;generalize p:ρ k=B at i
   generalize q:ρ y=C at j
   cases i<;>first|(cases e;done)|skip
   cases j<;>first|(cases e;done)|skip
   exact aqR n e p q
  ·cases c
 ·rename_i E m;split at c
  ·rename_i ds L;split at c
   ·cases c
    grind [anC]
   ·cases c
  ·cases c
 ·rename_i d H I J m;have K:∀neg,l=(if neg then .neq else .eql)→nh neg d (vals r F)=some G→fS P φ ρ ⟨s,.binOp l g k y x,w,v,after,guard⟩ G:=by
   intro neg A e;rw[o]at e;obtain⟨u,e⟩:=cL.1 (show aQ (xo d a) (Fx neg [a,b])=some G from e);refine agI A (hT.bt m) i j ?_ u e rfl rfl;cases d<;>simp[xo]at u⊢
  split at c
  ·simp_all
  ·simp_all
  ·cases c
 ·cases c
theorem aoG{d:TypeId}{o:Option Tmp}{u:TypeId}{s:String}{after:Array Edge}{guard:Option (Nat×Bool)}(hT:cT P T){f:Fr→V}
 (h:hH k=some f) (a:ry T g d [f]=.pu t D) (q:jH φ F ρ [k]) (l:D (vals t F)=some G):fS P φ ρ ⟨o,.convert g d k,u,s,after,guard⟩ G:=by
 have b:=pG q h;unfold ry at a;split at a
 ·rename_i w m j c;cases a;have i:(match [f F]with|[.int _ n]=>iT m (aB m n)|_=>none)=some G:=l;generalize f F=v at b i
  generalize r:ρ k=y at b
  cases b<;>first|(cases i;done)|skip
  cases i;exact UK r (hT.bt j) (hT.bt c)
 ·rename_i e j c;split at a
  ·rename_i p;cases a;exact ard (hT.bt j) (hT.bt c) (hT.bt p) b l
  ·cases a
 ·grind
 ·cases a
end
section
variable {P:Program}{φ:aG}{ρ:Operand→Value}{T:cc}{N:eT}{F:Fr}
theorem RW{y z:Operand}(g:jH φ F ρ [k,y,z])(h:iK [k,y,z]=some t):∃a b c,vals t F=[a,b,c]∧aL φ a (ρ k)∧aL φ b (ρ y)∧aL φ c (ρ z):=by
 have:=oE h g;generalize vals t F=l at this
 cases this with
 |cons i d=>cases d with
  |cons j e=>cases e with
   |cons m f=>cases f;grind
variable{y:Array TypeId}{D:List V→Option aX}{G:aX}
theorem aoF{b:Builtin}{o:Array Operand}{E:Option Tmp}{L:String}{after:Array Edge}{guard:Option (Nat×Bool)}(hT:cT P T){C:List (Fr→V)}
 (h:iK o.toList=some t) (c:AH T b y.toList t=.pu C D) (J:jH φ F ρ o.toList) (j:D (vals C F)=some G):fS P φ ρ ⟨E,.call ⟨.builtin b,o,y⟩,g,L,after,guard⟩ G:=by
 have c:=dZ c aE;obtain⟨R,K,c⟩:=av.1 c;obtain⟨d,u,c⟩:=av.1 c;have w:=lk K;have k:=oE h J;have A:∀ {f:V→Option aX},un f (vals t F)=some G→∃x v,o=#[x]∧aL φ v (ρ x)∧f v=some G:=by
  intro f hh;generalize vals t F=l at k hh
  obtain⟨m⟩:=o
  match l,hh with
  |[v],hh=>
   match m with
   |[]=>cases k
   |[x]=>cases k with|cons r n=>exact⟨x,v,rfl,r,hh⟩
   |_::_::_=>cases k with|cons r n=>cases n
  |[],hh=>cases hh
  |_::_::_,hh=>cases hh
 cases b<;>simp only[reduceCtorEq]at c
 case append=>
  split at c
  ·rename_i e;obtain⟨i,hi,c⟩:=av.1 c;obtain⟨z,q,c⟩:=av.1 c;obtain⟨W,Q,c⟩:=av.1 c;obtain⟨I,c⟩:=cL.1 c;rw[beq_eq,gV]at I;cases z
   ·cases c
   ·cases c;obtain⟨S,O,q⟩:=av.1 q;obtain⟨M,N,q⟩:=av.1 q;cases M<;>first|(cases q;done)|skip
    generalize vals t F=l at k j
    obtain⟨m⟩:=o
    match l,j with
    |[s,U],j=>
     match m with
     |[]=>cases k
     |[_]=>cases k with|cons _ n=>cases n
     |[a,b]=>cases k with|cons r n=>cases n with|cons H B=>grind [Tk,lk]
     |_::_::_::_=>cases k with|cons r n=>cases n with|cons H B=>cases B
    |[],j=>cases j
    |[_],j=>cases j
    |_::_::_::_,j=>cases j
  ·cases c
 case cap=>
  split at c
  ·cases c;obtain⟨x,v,rfl,p,j⟩:=A j;exact T_ w (hT.bt u) p j
  ·cases c
 case copy=>
  split at c
  ·obtain⟨s,_,c⟩:=av.1 c;cases c
  ·cases c
 case len=>
  split at c
  ·cases c;obtain⟨x,v,rfl,p,j⟩:=A j;exact amm w (hT.bt u) p j
  ·cases c;obtain⟨x,v,rfl,p,j⟩:=A j;exact amk w (hT.bt u) p j
  ·cases c;obtain⟨x,v,rfl,p,j⟩:=A j;cases j;exact amj w (hT.bt u)
  ·cases c
  ·cases c
 case max=>cases c;exact am2 k j
 case min=>cases c;exact am6 k j
theorem Qm(hT:cT P T)(b5:jV P N)(aw:∀f,ρ (.func f)=.func (.func f) #[] #[]) (o:Oper) (g:cop N T o.op=.pu t D) (A:jH φ F ρ o.op.operands.toList) (r:D (vals t F)=some G):fS P φ ρ o G:=by
 obtain⟨a3,Q,ty,a',after,guard⟩:=o;simp only at g A;cases Q<;>simp only[cop,reduceCtorEq]at g<;>simp only[Op.operands]at A
 case move x=>
  obtain⟨f,j,g⟩:=av.1 (dZ g aE);cases g;cases r
  grind [am9,pG]
 case pick c x y=>
  obtain⟨H,j,g⟩:=av.1 (dZ g aE);cases g;obtain⟨a,b,d,E,w,R,h3⟩:=RW A j;rw[E]at r;generalize B:ρ c=c' at w
  cases w<;>first|(cases r;done)|skip
  rename_i C;cases C
  ·cases r
   grind [Qg]
  ·cases r
   grind [Qg]
 case alloc C=>
  obtain⟨zs,U,g⟩:=av.1 (dZ g aE)
  grind [Ta]
 case box C x=>
  obtain⟨f,j,g⟩:=av.1 (dZ g aE);cases g;obtain⟨hk,r⟩:=cL.1 (show aQ (aZ (f F)) (some (aX.new (cellsOf (f F)) .ptr))=some G from r)
  grind [TK,pG]
 case build C parts=>grind [TN]
 case buildSlice C n parts=>grind [TM]
 case nilCheck x=>
  obtain⟨f,j,g⟩:=av.1 (dZ g aE);cases g;have w:=pG A j;have z:zy [f F]=some G:=r;generalize f F=v at w z
  generalize B:ρ x=Y at w
  cases w<;>first|(cases z;done)|skip
  ·rename_i b o l K;cases z;exact PS B (.ptr K)
  ·rename_i k c o cs vs y hi g E;cases z;exact PS B (.dh hi g E)
 case binOp Q C x y bd=>
  obtain⟨H,j,g⟩:=av.1 (dZ g aE)
  grind [Option.some.injEq,bQ.pu.injEq,aoE]
 case unOp Q C x=>
  obtain⟨f,j,g⟩:=av.1 (dZ g aE);have w:=pG A j;cases Q<;>simp only[reduceCtorEq]at g
  ·cases g;have z:(match [f F]with|[.int k n]=>iT k (aB k (Int.sub (.ofNat 0) n))|_=>none)=some G:=r;generalize f F=v at w z
   generalize B:ρ x=Y at w
   cases w<;>first|(cases z;done)|skip
   cases z;exact anB B
  ·cases g;have z:(match [f F]with|[.bool b]=>h_ (!b)|_=>none)=some G:=r;generalize f F=v at w z
   generalize B:ρ x=Y at w
   cases w<;>first|(cases z;done)|skip
   cases z;exact anR B
 case convert s d x=>
  obtain⟨f,j,g⟩:=av.1 (dZ g aE)
  grind [Option.some.injEq,bQ.pu.injEq,aoG]
 case makeFunc L first captured=>
  cases L<;>simp only[reduceCtorEq]at g;obtain⟨H,j,g⟩:=av.1 (dZ g aE);cases g;obtain⟨q,B,r⟩:=av.1 r;cases r;obtain⟨a,I,B⟩:=av.1 B;cases B;have M:jH φ F ρ (cX first.toList captured.toList):=by
   rw[iH];intro y S;exact A y (by simpa using S)
  have E:=oE j M;rw[iH,List.map_append]at E;rw[gV]at I;rw[eZ]at I;split at I
  ·cases I;have hl:first.toList.length=(first.toList.map ρ).length:=aE
   refine amU ?_ ?_
   ·have:=E.take first.toList.length
    grind
   ·have:=E.drop first.toList.length
    grind [List.drop_left,gV,kj]
  ·cases I
 case makeSlice C l c=>
  obtain⟨H,j,g⟩:=av.1 (dZ g aE);obtain⟨d,J,g⟩:=av.1 g;cases d<;>simp only[reduceCtorEq]at g;obtain⟨i,hi,g⟩:=av.1 g;obtain⟨zs,U,g⟩:=av.1 g;obtain⟨O,g⟩:=cL.1 g;cases g
  grind [beq_eq,gV,yj,amX]
 case slice C x lo hi mx=>
  obtain⟨H,j,g⟩:=av.1 (dZ g aE);obtain⟨d,J,g⟩:=av.1 g;have M:jH φ F ρ (x::(lo.toList++hi.toList++mx.toList)):=by
   intro y S;refine A y ?_
   grind
  cases d<;>simp only[reduceCtorEq]at g
  case string=>
   cases g;obtain⟨a,l,h,m,I,hl,hh,X,_,r⟩:=HJ j M r;cases a<;>first|(cases r;done)|skip
   exact aqy (n:=1) (hT.bt J) I hl hh X ⟨_,rfl⟩ r
  case slice e=>
   obtain⟨s,O,g⟩:=av.1 g;cases g;obtain⟨a,l,h,m,I,hl,hh,X,a8,r⟩:=HJ j M r;have am:∀s,a≠ .str s:=by intro s he;subst he;cases r
   have z:z2 s a l h m=some G:=by
    cases a<;>first|exact absurd rfl (am _)|exact r
   grind [aqx]
  case array n e=>
   obtain⟨s,O,g⟩:=av.1 g;cases g
   grind [HJ,aqu]
 case fieldAddr s x f=>
  obtain⟨p,j,g⟩:=av.1 (dZ g aE);obtain⟨d,J,g⟩:=av.1 g;cases d<;>simp only[reduceCtorEq]at g;obtain⟨fd,W,g⟩:=av.1 g;obtain⟨n,hn,g⟩:=av.1 g;obtain⟨U,g⟩:=cL.1 g;cases g;rw[gO]at W;exact ahj hT J W hn (by intro h0;subst h0;simp[fh]at U) (pG A j) r
 case indexAddr C x i=>
  obtain⟨H,j,g⟩:=av.1 (dZ g aE);obtain⟨d,J,g⟩:=av.1 g;obtain⟨a,b,E,w,R⟩:=yj A j;cases d<;>simp only[reduceCtorEq]at g
  case slice e=>
   obtain⟨s,O,g⟩:=av.1 g;cases g
   grind [ai7]
  case array n e=>
   obtain⟨s,O,g⟩:=av.1 g;cases g
   grind [ai6]
 case index C x i=>
  obtain⟨H,j,g⟩:=av.1 (dZ g aE);obtain⟨d,J,g⟩:=av.1 g;obtain⟨a,b,E,w,R⟩:=yj A j;cases d<;>simp only[reduceCtorEq]at g
  case string=>
   cases g;rw[E]at r;exact ai9 (hT.bt J) w R r
 case extract x i=>
  obtain⟨f,j,g⟩:=av.1 (dZ g aE);cases g;have w:=pG A j;have z:y6 i [f F]=some G:=r;generalize f F=v at w z
  cases v<;>first|(cases z;done)|skip
  obtain⟨u,hu,z⟩:=av.1 (show an (cO _ i) (fun v=>some (aX.val v))=some G from z)
  grind [gO,ag8]
 case call c=>
  obtain⟨callee,Z,ts⟩:=c;have V:=dZ g aE;clear g;have g:=V;clear V;have ap:jH φ F ρ Z.toList:=fun y S=>A y (by simp[Call.operands];grind)
  cases callee with
  |value x=>
   cases x<;>simp only[]at g
   case func f=>
    obtain⟨L,ad,g⟩:=av.1 g;obtain⟨H,j,g⟩:=av.1 g;cases K:L.body with
    |some c=>rw[K]at g;cases g
    |none=>
     rw[K]at g;obtain⟨ar,g⟩:=cL.1 g;obtain⟨g',ae,g⟩:=av.1 g;cases g;exact ag7 (aw f) (b5 f L ad) K (by simpa using ar) ae (oE j ap) r
   all_goals
    obtain⟨H,j,g⟩:=av.1 g;cases g
  |invoke x m=>cases g
  |builtin b=>
   obtain⟨H,j,g⟩:=av.1 g
   grind [Option.some.injEq,bQ.pu.injEq,aoF]
 all_goals exact dead g
end
section
variable {P:Program}{φ:aG}{ρ:Operand→Value}{T:cc}{N:eT}{F:Fr}{H:af}{w:World}
variable{z:V→V→Option Bool}
theorem zd(h:rG T g=some z):∃n e ds,T.bt g=some (.array n e)∧wO T g=some ds∧
 z=fun a b=>match a with|.agg x=>(match b with|.agg y=>m9 ds x y|_=>aJ)|_=>aJ:=by
 obtain⟨ds,c,h⟩:=av.1 (show an (wO T g) _=some z from h);cases h;obtain⟨d,f,h⟩:=av.1 (show an (T.bt g) _=some ds from c)
 grind
variable{r:V}
theorem Ga{ds:List TypeDesc}{a:V}(h:(match a with|.agg x=>(match r with|.agg y=>m9 ds x y|_=>aJ)|_=>aJ)=some n):∃x y,a=.agg x∧r=.agg y∧m9 ds x y=some n:=by
 grind
theorem aL.yH{v:Value}(h:aL φ (.agg b) v):∃a,v=.agg ⟨a⟩∧bp φ b a:=by
 cases h with
 |agg h=>exact⟨_,rfl,h⟩
theorem O7(hT:cT P T)(e:rG T g=some z){a:V}{b:Value}(c:aL φ a x)(d:aL φ r b)(h:z a r=some n)(w:World):(Op.equal g x b).run P w=.ok n w:=by
 obtain⟨_,_,ds,_,f,rfl⟩:=zd e;obtain⟨l,y,rfl,rfl,i⟩:=Ga h;obtain⟨m,rfl,j⟩:=c.yH;obtain⟨o,rfl,k⟩:=d.yH
 grind [S8]
theorem ap1(a b:Value):Instr.sameNow (.array h g) a b=none:=by
 cases a<;>cases b<;>rfl
def r3(φ:aG)(i:Nat):List (V×V)→List MapEntry→Prop
 |[],[]=>True
 |(k,v)::a,e::b=>aL φ k e.key∧aL φ v e.val∧e.born=i∧r3 φ (i+1) a b
 |_,_=>False
theorem agG:∀ {i:Nat},r3 φ i O S↔S.length=O.length∧∀j k v,O[j]? =some (k,v)→∃e:MapEntry,S[j]? =some e∧aL φ k e.key∧aL φ v e.val∧e.born=i+j:=by
 induction O generalizing S with
 |nil=>
  intro i;cases S with
  |nil=>simp[r3]
  |cons=>simp[r3]
 |cons x O f=>
  intro i;obtain⟨k,v⟩:=x;cases S with
  |nil=>simp[r3]
  |cons e S=>
   simp only[r3,f,cV];constructor
   ·grind
   ·rintro⟨s,b⟩;obtain⟨m,a,c,g3,r⟩:=b 0 k v aE;simp at a;subst a;refine⟨c,g3,aa,aa,?_⟩;intro j g h d;obtain⟨l,n,o,p,q⟩:=b (j+1) g h (by simpa using d)
    grind
theorem Px:q6 φ O S↔r3 φ 0 O S:=by
 rw[agG];simp[q6]
theorem PA{e:V×V}{c:Option (Nat×V)}(h:pB z r (e::O) a=some c):
 ∃b,z r e.1=some b∧((b=true∧c=some (a,e.2))∨(b=false∧pB z r O (a+1)=some c)):=by
 obtain⟨b,d,h⟩:=av.1 (show an (z r e.1) (fun c=>Bool.casesOn (motive:=fun _=>Option (Option (Nat×V))) c (pB z r O (a+1)) (some (some (a,e.2))))=some c from h);cases b with
 |true=>grind
 |false=>grind
def IC(φ:aG):Option (Nat×V)→Option (Nat×Value)→Prop
 |none,none=>True
 |some (i,v),some (j,a)=>i=j∧aL φ v a
 |_,_=>False
theorem ahk(hT:cT P T)(m:rG T g=some z)(n:aL φ r x)(w:World):∀ {c:List (V×V)}{a:List MapEntry}{i:Nat}{f:Option (Nat×V)},r3 φ i c a→pB z r c i=some f→
 ∃j,(Instr.findAsking g x a i).run P w=.ok j w∧IC φ f j:=by
 intro c;induction c with
 |nil=>
  intro a i f d h;cases a with
  |nil=>cases h;exact⟨none,rfl,trivial⟩
  |cons=>exact d.elim
 |cons y c u=>
  intro a i f d h;obtain⟨B,v⟩:=y;cases a with
  |nil=>exact d.elim
  |cons e a=>
   obtain⟨k,q,A,s⟩:=d;obtain⟨b,l,⟨rfl,rfl⟩|⟨rfl,t⟩⟩:=PA h
   ·exact⟨some (i,e.val),by simp[Instr.findAsking,O7 hT m n k l],rfl,q⟩
   ·obtain⟨j,o,p⟩:=u s t;exact⟨j,by simp[Instr.findAsking,O7 hT m n k l,o],p⟩
theorem N2(hT:cT P T)(i:rG T g=some z)(n:aL φ r x){j:Option (Nat×V)}(m:q6 φ O S)(h:pB z r O 0=some j)(w:World):
 ∃c,(Instr.findKey g x S).run P w=.ok c w∧IC φ j c:=by
 have f:=Px.1 m;obtain⟨_,_,ds,d,p,q⟩:=zd i;cases S with
 |nil=>
  cases O with
  |nil=>cases h;exact⟨none,by simp[Instr.findKey,run_underlying (hT.bt d),Instr.findNow],trivial⟩
  |cons o O=>obtain⟨a,b⟩:=o;exact f.elim
 |cons e S=>
  obtain⟨c,k,l⟩:=ahk hT i n w f h;exact⟨c,by simp[Instr.findKey,run_underlying (hT.bt d),Instr.findNow,ap1,k],l⟩
theorem Up(hT:cT P T)(b:T.bt g=some C)(c:tZ C=true)(a:Bool)(n:Nat)(v:Value)(w:World):(Instr.checkKey a (n+1) g v).run P w=.ok () w:=by
 have d:=run_underlying (hT.bt b) w;cases C<;>first|(cases c;done)|(simp only[Instr.checkKey,eg,d,eH];rfl)
theorem Uq(hT:cT P T)(k:T.bt g=some C)(l:tZ C=true)(f:Bool)(n:Nat)(e:List Value)(w:World)(B:(sizeOf g).run P w=.ok 1 w):∀(d i:Nat) (c:List V) (r:Bool),bp φ c (e.drop i)→m9 (zS C d) c c=some r→
 (forIn (tB i d) PUnit.unit (fun j _=>do
   Instr.checkKey f (n+1) g (←part g ⟨e⟩ (j*(←sizeOf g)))
   pure (ForInStep.yield PUnit.unit)):Sem PUnit).run P w=.ok () w:=by
 intro d;induction d with
 |zero=>intro i c r _ _;simp
 |succ d z=>
  intro i c r t h;obtain⟨x,c,y,I,a,b,rfl,s,A,p,rfl⟩:=D7 (show m9 (C::zS C d) c c=some r from h);cases s;obtain⟨m,H,v,D,u⟩:=t.cons_inv;obtain⟨q,o⟩:=y2 v;have E:=z (i+1) c b (by rw[o];exact u) p;have F:=zG (hT.bt k) l (cs:=⟨e⟩) (i:=i*1) (v:=m) (by simpa using q) w;have G:=Up hT k l f n m w;simp_all [List.range'_succ,List.forIn_cons,eg,eH,fZ]
theorem Kp(hT:cT P T)(p:rG T g=some z)(q:aL φ r x)(h:z r r=some n)(b:Bool)(w:World):(Instr.checkKey b 10000 g x).run P w=.ok () w:=by
 obtain⟨u,e,ds,d,a,rfl⟩:=zd p;obtain⟨v,y,rfl,o,j⟩:=Ga h;cases o;obtain⟨A,rfl,t⟩:=q.yH;obtain⟨B,f,a⟩:=av.1 (show an (T.bt g) _=some ds from a);rw[d]at f;cases f;have D:=hT.bt d;obtain⟨C,m,a⟩:=av.1 (show an (T.bt e) _=some ds from a);obtain⟨k,a⟩:=cL.1 a;obtain⟨i,l,a⟩:=av.1 a;obtain⟨c,a⟩:=cL.1 a;cases a;rw[beq_eq]at c;have s:(sizeOf e).run P w=.ok 1 w:=by
  have:=qL (hT.info e i l) w;simp[sizeOf,this,c]
 have:=Uq hT m k b 9998 A w s u 0 v n t j;rw[show(10000:Nat)=9998+1+1 from rfl];unfold Instr.checkKey;simp_all [eg,run_underlying,eH]
theorem Gm(h:H.jk a=some O):H.get a=.cl (.map O):=by
 unfold af.jk at h;cases b:H.get a<;>rw[b]at h<;>first|(cases h;done)|skip
 rename_i o;cases o<;>cases h;rfl
theorem zp(e:Rel φ H w)(d:φ a=some Q)(h:H.jk a=some O):∃b,w.heap[Q.c]? =some (.map ⟨b⟩ O.length)∧q6 φ O b:=(e.cl d (Gm h)).2
def F2:Obj→Bool
 |.cells _ _ _=>true
 |_=>false
theorem uz{o:Obj}(h:w.heap[a]? =some o)(b:F2 o=false):(getObj a).run P w=.ok o w:=by
 cases o<;>first|(cases b;done)|simp[getObj,Sem.run,h]
section
variable {dst:Option Tmp}{ty:TypeId}{pos:String}{after:Array Edge}{guard:Option (Nat×Bool)}
theorem amK(hT:cT P T)(W:Rel φ H w){A e:TypeId}{y:Operand}(R:T.bt g=some (.map A e))(o:rG T A=some z){i:TypeInfo}(hi:T.info e=some i)(X:i.zero=some x)(Y:mU 20 x=some r)
 {m c:V} (E:aL φ m (ρ k)) (D:aL φ c (ρ y)) {v:V} (B:ue z r n [m,c] H=some v):∃a,(execOp ρ ⟨dst,.lookup g k y n,ty,pos,after,guard⟩).run P w=.ok (.value a) w∧aL φ v a:=by
 obtain⟨b,Q,h⟩:=av.1 (show an (z c c) _=some v from B);clear B;have s:=run_underlying (hT.bt R) w;have f:=fun K=>Kp hT o D Q K w
 have G:=s4 (hT.info e i hi) X w;have I:=CS φ _ _ _ Y;have p:∀ {v:V}{a:Value} (b:Bool),aL φ v a→aL φ (ug n v b) (if n then .tuple #[a,.bool b]else a):=by
  intro v a b F;cases n
  ·exact F
  ·exact .aA (.cons F (.cons (.bool b) .nil))
 generalize t:ρ k=x' at E
 cases E<;>first|(cases h;done)|skip
 ·rename_i Z l U;obtain⟨es,N,h⟩:=av.1 (show an (H.jk Z) _=some v from h);obtain⟨ac,O,h⟩:=av.1 h;obtain⟨ae,L,M⟩:=zp W U N;obtain⟨J,g3,d⟩:=N2 hT o D M O w;have C:=uz (P:=P) L rfl;cases ac with
  |none=>
   cases h;cases J with
   |none=>
    refine⟨_,?_,p false I⟩;simp only[execOp,Instr.lookup,t,eg,s,eH,C,f,g3,G,fZ]
   |some q=>exact d.elim
  |some q=>
   obtain⟨j,u⟩:=q;cases h;cases J with
   |none=>exact d.elim
   |some q'=>
    obtain⟨j',u'⟩:=q';refine⟨_,?_,p true d.2⟩;simp only[execOp,Instr.lookup,t,eg,s,eH,C,f,g3,fZ]
 ·cases h;refine⟨_,?_,p false I⟩;have g3:(Instr.findKey A (ρ y) []).run P w=.ok none w:=by
   obtain⟨_,_,_,S,_⟩:=zd o;simp[Instr.findKey,run_underlying (hT.bt S),Instr.findNow]
  simp only[execOp,Instr.lookup,t,eg,s,eH,f,g3,G,fZ]
variable{y:Array TypeId}
theorem aml(hT:cT P T)(q:Rel φ H w){s e:TypeId}(n:T.bt g=some (.map s e))(b:y[0]? =some g)(a:aL φ r (ρ k)){v:V}(h:ud [r] H=some v):
 ∃f,(execOp ρ ⟨dst,.call ⟨.builtin .len,#[k],y⟩,ty,pos,after,guard⟩).run P w=.ok (.value f) w∧aL φ v f:=by
 have c:=run_underlying (hT.bt n) w;generalize d:ρ k=z at a
 cases a<;>first|(cases h;done)|skip
 ·rename_i t l p;obtain⟨u,m,h⟩:=av.1 (show an (H.jk t) _=some v from h);cases h;obtain⟨x,i,j⟩:=zp q p m;have o:=uz (P:=P) i rfl;refine⟨_,?_,.int .i64 _⟩;simp[execOp,resolve,invoke,builtin,Builtin.len_,d,b,c,o,goInt,gV,j.1]
 ·cases h;refine⟨_,?_,.int .i64 _⟩;simp[execOp,resolve,invoke,builtin,Builtin.len_,d,b,c,goInt]
theorem agH:∀ {i j:Nat}{e:V×V},r3 φ i O S→O[j]? =some e→∃x:MapEntry,S.find? (fun x=>x.born==i+j)=some x∧aL φ e.1 x.key∧aL φ e.2 x.val:=by
 induction O generalizing S with
 |nil=>grind
 |cons y O g=>
  intro i j e a h;obtain⟨k,v⟩:=y;cases S with
  |nil=>exact a.elim
  |cons x S=>
   obtain⟨b,c,d,f⟩:=a
   grind
theorem agF(p:Rel φ H w)(n:aL φ r (ρ k)){v:V}(h:sC [r] H=some v):
 ∃s,(execOp ρ ⟨dst,.entry k,ty,pos,after,guard⟩).run P w=.ok (.value s) w∧aL φ v s:=by
 generalize J:ρ k=O at n
 cases n<;>first|(cases h;done)|skip
 rename_i b o l D;cases o with
 |succ o=>cases h
 |zero=>
  have a:(match H.get b with
   |.cl (.iter r _ _ d q)=>an (H.jk r) fun c=>aQ (bn (cn c) q)<|an d fun i=>an (cO c i) fun e=>some (.aA [e.1,e.2])
   |_=>aJ)=some v:=h
  cases m:H.get b<;>rw[m]at a<;>first|(cases a;done)|skip
  rename_i K;cases K<;>first|(cases a;done)|skip
  rename_i N since left d q;obtain⟨c,C,a⟩:=av.1 a;obtain⟨f,a⟩:=cL.1 a;obtain⟨i,g,a⟩:=av.1 a;obtain⟨e,j,a⟩:=av.1 a;cases a;obtain⟨F,M,seen,y,z,_,B,_⟩:=p.cl D m;obtain⟨L,g3,A⟩:=zp p y C;rw[beq_eq,gV]at f;rw[←B]at g;rw[gO]at j;obtain⟨k,t,u,x⟩:=agH (Px.1 A) j;rw[eJ]at t;have G:=uz (P:=P) z rfl;have I:=uz (P:=P) g3 rfl;refine⟨.tuple #[k.key,k.val],?_,.aA (.cons u (.cons x .nil))⟩;have E:(⟨seen⟩:Array Nat).back?=some i:=by rw[Array.back?_eq_getElem?];simpa [List.getLast?_eq_getElem?]using g
  simp only[execOp,Instr.entry,J,F,cG,eg,G,eH,E,I,f];simp_all
end
end
theorem af.aK(H:af)(a b:Nat)(o:cR):(H.set a o).get b=if a=b then o else H.get b:=aN.aK cR.none H.m a b o
theorem af.aY(H:af)(b:Nat)(o:cR):(H.push o).get b=if H.next=b then o else H.get b:=aN.aK cR.none H.m H.next b o
theorem gB:c.fV a h=true↔h=0∨∃d b,c.get h=.bD d b∧b≤a:=by
 cases h with
 |zero=>exact⟨fun _=>.inl rfl,fun _=>rfl⟩
 |succ h=>
  have e:c.fV a (h+1)=cR.casesOn (motive:=fun _=>Bool) (c.get (h+1)) false (fun _ _=>false) (fun _ b=>bL b a) (fun _=>false):=rfl;rw[e];cases f:c.get (h+1)with
  |bD d b=>simp;grind
  |_=>simp
theorem cells?_some(h:c.cells? a=some b):∃g,c.get a=.cells b g∧c.fV a g=true:=by
 unfold af.cells? at h;cases d:c.get a with
 |cells e g=>
  rw[d]at h;obtain⟨f,i⟩:=cL.1 h
  grind
 |_=>rw[d]at h;cases h
section
variable {P:Program}{φ:aG}{H:af}{w:World}
theorem amF(k:Rel φ H w)(i:φ a=some Q){v:V}(b:H.load a h=some v):∃d,w.cell? ⟨Q.c,Q.base+h,none⟩=some d∧aL φ v d:=by
 obtain⟨l,j,b⟩:=av.1 b;obtain⟨g,e,f⟩:=cells?_some j;rw[gO]at b;exact k.cell i e f b
variable{u:Nat}
theorem xE(s:Rel φ H w)(p:φ a=some Q)(d:H.cP a h u=some b):
 ∃k,k.length=u∧bp φ b k∧∀j v,k[j]? =some v→w.cell? ⟨Q.c,Q.base+h+j,none⟩=some v:=by
 obtain⟨f,q,d⟩:=av.1 d;obtain⟨g,n,o⟩:=cells?_some q;rw[eZ,kj]at d;split at d
 ·rename_i r;cases d;rw[g5]at r;have y:∀j,j<u→∃v e,f[h+j]? =some v∧w.cell? ⟨Q.c,Q.base+h+j,none⟩=some e∧aL φ v e:=by
   intro j z;have l:h+j<f.length:=aa;obtain⟨e,t,m⟩:=s.cell p n o (i:=h+j) (v:=f[h+j]) (by simp[l]);exact⟨_,e,by simp[l],by grind,m⟩
  refine⟨(p_ u).map fun j=>(w.cell? ⟨Q.c,Q.base+h+j,none⟩).getD undef,aE,?_,?_⟩
  ·refine .P4 (by simp;omega) (fun i x A=>?_)
   grind
  grind
 ·cases d
variable{L:Nat}
theorem Hp(k:Rel φ H w){q:List V}{y:Obj}(hi:φ.im a=some y)(f:bp φ b E)(l:∀i v,E[i]? =some v→Obj.at y (h+i) v)(d:cj (ej b u) L=some q):
 ∃e,e.length=L∧bp φ q e∧∀j v,e[j]? =some v→w.cell? ⟨a,h+u+j,none⟩=some v:=by
 rw[eZ,kj]at d;split at d
 ·rename_i g;cases d;rw[g5]at g;have m:=f.length;refine⟨(E.drop u).take L,by simp;omega,(f.drop u).take L,?_⟩;intro j v c;rw[List.getElem?_take]at c;split at c
  ·rw[uR]at c;have:=l _ _ c w a (k.fH hi).obj
   grind
  ·cases c
 ·cases d
variable {ρ:Operand→Value}{T:cc}{N:eT}{F:Fr}
theorem zW(hl:E.length=u)(b:∀j v,E[j]? =some v→w.cell? ⟨a,h+j,none⟩=some v):(loadCells ⟨a,h,none⟩ u).run P w=.ok E.toArray w:=by
 grind [run_loadCells_list,mz]
variable{r:V}
theorem Pp(hT:cT P T)(t:Rel φ H w)(s:T.isAgg g=some n)(B:iV T g=some h)(F:aL φ r x){v:V}(d:iz n h [r] H=some v):
 ∃a,x=.pointer (some a)∧∃j,(loadVar g a).run P w=.ok j w∧aL φ v j:=by
 cases F<;>first|(cases d;done)|skip
 ·rename_i b o l A;refine⟨_,rfl,?_⟩;cases n with
  |false=>
   obtain⟨j,f,i⟩:=amF t A (show H.load b o=some v from d);exact⟨j,by simp[loadVar,Cy hT s,f],i⟩
  |true=>
   obtain⟨e,p,d⟩:=av.1 (show an (H.cP b o h) (fun e=>some (.agg e))=some v from d);cases d;obtain⟨u,f,i,m⟩:=xE t A p;refine⟨.agg ⟨u⟩,?_,.agg i⟩;simp only[loadVar,eg,Cy hT s,eH,if_true,l_ hT B,zW f m,fZ]
 ·rename_i k c o e G y hi p C;refine⟨_,rfl,?_⟩;have D:=(t.fH hi).obj;cases n with
  |false=>
   have z:cO e k=some v:=d;rw[gO]at z;obtain⟨j,f,i⟩:=p.get _ _ z;have m:=C _ _ f w c D;exact⟨j,by simp[loadVar,Cy hT s,m],i⟩
  |true=>
   obtain⟨q,E,d⟩:=av.1 (show an (cj (ej e k) h) (fun e=>some (.agg e))=some v from d);cases d;obtain⟨u,f,i,m⟩:=Hp t hi p C E;refine⟨.agg ⟨u⟩,?_,.agg i⟩;simp only[loadVar,eg,Cy hT s,eH,if_true,l_ hT B,zW f m,fZ]
variable{j:List UInt8}
theorem JV(h:bp φ b E)(a:bytesOf b=some j):E=j.map fun c=>Value.int .u8 c.toNat:=by
 induction b generalizing E j with
 |nil=>cases h;cases a;rfl
 |cons v b i=>
  cases h with
  |cons d e=>
   cases d<;>first|(cases a;done)|skip
   rename_i k n;cases k<;>cases n<;>first|(cases a;done)|skip
   rename_i n;obtain⟨f,a⟩:=cL.1 (show aQ (bL (Nat.succ n) 256) (an (bytesOf b) fun r=>some (g6 n::r))=some j from a);obtain⟨r,g,a⟩:=av.1 a;cases a;rw[fB]at f;rw[i e g];simp;omega
variable{R:List V→af→Option V}
theorem QJ(hT:cT P T)(K:Rel φ H w)(o:Oper)(g:cop N T o.op=.rd t R)(I:jH φ F ρ o.op.operands.toList){v:V}(h:R (vals t F) H=some v):
 ∃U,(execOp ρ o).run P w=.ok (.value U) w∧aL φ v U:=by
 obtain⟨a0,bj,ty,bo,after,guard⟩:=o;simp only at g I;cases bj<;>simp only[cop,reduceCtorEq]at g<;>simp only[Op.operands]at I
 case load aw a=>
  obtain⟨f,G,g⟩:=av.1 (dZ g aE);obtain⟨R,hg,g⟩:=av.1 g;obtain⟨n,hn,g⟩:=av.1 g;cases g;obtain⟨b1,p,U,A,h3⟩:=Pp hT K hg hn (pG I G) (show iz R n [f F] H=some v from h);exact⟨U,by simp[execOp,Instr.loadAt,p,wv,A],h3⟩
 case convert s d x=>
  obtain⟨f,G,g⟩:=av.1 (dZ g aE);have J:ry T s d [f]=.rd t R:=Option.some.inj g;unfold ry at J;split at J<;>first|(cases J;done)|skip
  ·grind
  ·rename_i e L r;split at J
   ·rename_i C;cases J;have p:=pG I G;have k:ta [f F] H=some v:=h;generalize f F=u at p k
    generalize hq:ρ x=x' at p
    have O:∀ {a:Option Addr}{len Q:Nat}{y:Value},(convert s d (.slice a len Q)).run P w=.ok y w→x'=.slice a len Q→(execOp ρ ⟨a0,.convert s d x,ty,bo,after,guard⟩).run P w=.ok (.value y) w:=by
     intro a len Q y h C;simp only[execOp,hq,C];rw[eg,h];rfl
    cases p<;>first|(cases k;done)|skip
    ·rename_i b o len Q M l hb a6 ap;obtain⟨X,a3,k⟩:=av.1 (show an (H.cP b o len) _=some v from k);obtain⟨st,ae,k⟩:=av.1 k;cases k;obtain⟨bv,Y,Z,a1⟩:=xE K hb a3;have ab:=JV Z ae;subst ab;have ac:st.length=len:=by simpa using Y
     subst ac;refine⟨_,O ?_ rfl,.str st⟩;exact run_convert_bytes_back w s d e ⟨l.c,l.base+o,none⟩ M st (hT.bt L) (hT.bt C) (hT.bt r) (fun j hj=>by
      grind [mz])
    ·cases k;refine⟨_,O ?_ rfl,.str []⟩;simp[convert,run_underlying (hT.bt L),run_underlying (hT.bt r),run_underlying (hT.bt C),Conv.bytesToString];rfl
    ·cases k;rename_i a M;refine⟨_,O (y:=.string ⟨⟨[]⟩⟩) ?_ rfl,.str []⟩;simp[convert,run_underlying (hT.bt L),run_underlying (hT.bt r),run_underlying (hT.bt C),Conv.bytesToString,loadCells,loadCellsFrom];rfl
    ·rename_i a M ap;cases k;refine⟨_,O (y:=.string ⟨⟨[]⟩⟩) ?_ rfl,.str []⟩;cases a with
     |none=>
      rw[ap rfl];simp[convert,run_underlying (hT.bt L),run_underlying (hT.bt r),run_underlying (hT.bt C),Conv.bytesToString];rfl
     |some a=>
      simp[convert,run_underlying (hT.bt L),run_underlying (hT.bt r),run_underlying (hT.bt C),Conv.bytesToString,loadCells,loadCellsFrom];rfl
    ·rename_i n W o M X vs y hi g D a6;obtain⟨q,ba,k⟩:=av.1 (show an (cj X n) _=some v from k);obtain⟨st,ae,k⟩:=av.1 k;cases k;have a':cj (ej X 0) n=some q:=by rw[kj];exact ba
     obtain⟨bv,Y,Z,a1⟩:=Hp K hi g D a';have ab:=JV Z ae;subst ab;have ac:st.length=n:=by simpa using Y
     subst ac;refine⟨_,O ?_ rfl,.str st⟩;exact run_convert_bytes_back w s d e ⟨W,o,none⟩ M st (hT.bt L) (hT.bt C) (hT.bt r) (fun j hj=>by
      grind [mz])
   ·cases J
 case call W=>
  obtain⟨callee,ar,ts⟩:=W;have E:=dZ g aE;clear g;cases callee with
  |value x=>cases x<;>simp only[]at E<;>exact dead E
  |invoke x m=>cases E
  |builtin bi=>
   obtain⟨fs,ad,E⟩:=av.1 E;have B:=dZ (Option.some.inj E) aE;clear E;obtain⟨aw,ht,B⟩:=av.1 B;obtain⟨d,r,B⟩:=av.1 B;cases bi<;>simp only[reduceCtorEq]at B
   case len=>
    cases d<;>simp only[reduceCtorEq,Option.some.injEq,bQ.rd.injEq]at B;obtain⟨rfl,rfl⟩:=B;have a8:jH φ F ρ ar.toList:=fun y hy=>I y (by simp[Call.operands];simpa using hy)
    have D:=oE ad a8;generalize vals fs F=l at D h
    obtain⟨S⟩:=ar;cases S with
    |nil=>cases D;cases h
    |cons x S=>
     cases S with
     |nil=>
      cases D with
      |cons p A=>
       cases A;exact aml hT K r (lk ht) p h
     |cons y S=>
      cases D with
      |cons p A=>cases A with
       |cons A h3=>exact absurd h (by unfold ud;split<;>simp_all)
   all_goals exact dead B
 case lookup aw x i b'=>
  obtain⟨fs,ad,g⟩:=av.1 (dZ g aE);obtain⟨d,r,g⟩:=av.1 g;cases d<;>simp only[reduceCtorEq]at g;obtain⟨f,G,g⟩:=av.1 g;obtain⟨b2,hi,g⟩:=av.1 g;obtain⟨z,hz,g⟩:=av.1 g;obtain⟨cd,be,g⟩:=av.1 g;cases g;obtain⟨a,b,D,p,A⟩:=yj I ad;rw[D]at h;exact amK hT K r G hi hz be p A h
 case entry x=>
  obtain⟨f,G,g⟩:=av.1 (dZ g aE);cases g;exact agF K (pG I G) h
 case makeFunc f _ _=>
  cases f<;>simp only[reduceCtorEq]at g;exact dead g
 all_goals exact dead g
end
section
variable {P:Program}{φ:aG}{H:af}{w:World}
theorem P6{v:V}(h:aL φ v x)(a:v.one=true):x.oneCell'=true:=by
 cases h<;>first|rfl|assumption|cases a
theorem IY(h:bp φ b E)(a:cK b=true):∀v∈E,v.oneCell'=true:=by
 induction b generalizing E with
 |nil=>cases h;simp
 |cons v b f=>
  cases h with
  |cons d e=>
   have c:and v.one (cK b)=true:=a;rw[cC]at c
   grind [P6]
theorem aqP(d:H.e3 a h b=some c):
 ∃e g,H.get a=.cells e g∧cK b=true∧h+b.length≤e.length∧c.next=H.next∧
  (g=0∨∃j,H.get g=.bD a j)∧
  ∀x,c.get x=if a=x then .cells (e.take h++b++e.drop (h+b.length)) g else if g=x∧g≠0 then .bD a a else H.get x:=by
 unfold af.e3 at d;cases n:H.get a with
 |cells e g=>
  rw[n]at d;obtain⟨l,d⟩:=cL.1 d;obtain⟨q,i,d⟩:=av.1 d;rw[k8]at i;split at i
  ·rename_i o;cases i;cases g with
   |zero=>
    cases d;refine⟨e,0,rfl,l,o,rfl,.inl rfl,fun x=>?_⟩
    grind [af.aK]
   |succ g=>
    have f:cR.casesOn (motive:=fun _=>Option af) (H.get (g+1)) aJ (fun _ _=>aJ)
     (fun p _=>aQ (bn p a) (some ((H.set a (.cells (e.take h++b++e.drop (h+b.length)) (g+1))).set (g+1) (.bD a a)))) (fun _=>aJ)=some c:=d
    cases k:H.get (g+1)with
    |bD p j=>
     rw[k]at f;obtain⟨m,f⟩:=cL.1 f;rw[beq_eq]at m;subst m;cases f;refine⟨e,g+1,rfl,l,o,rfl,.inr ⟨j,k⟩,fun x=>?_⟩
     grind [af.aK]
    |_=>rw[k]at f;cases f
  ·cases i
 |_=>rw[n]at d;cases d
theorem aqG(b a:List f)(o i:Nat)(h:o+a.length≤b.length):
 (b.take o++a++b.drop (o+a.length))[i]? =if o≤i∧i<o+a.length then a[i-o]? else b[i]? :=by
 by_cases c:i<o
 ·grind
 grind
theorem z1(b:Nat):∀(a:List Value) (o:Nat) (w:World),(w.setCells b o a).heap.size=w.heap.size
 |[],_,_=>rfl
 |v::r,o,w=>by
  show((w.setCell ⟨b,o,none⟩ v).setCells b (o+1) r).heap.size=_;rw[z1 b r];simp[World.setCell]
theorem tP(b c:Nat)(h:b≠c):∀(a:List Value) (o:Nat) (w:World),(w.setCells b o a).heap[c]? =w.heap[c]?
 |[],_,_=>rfl
 |v::r,o,w=>by
  show((w.setCell ⟨b,o,none⟩ v).setCells b (o+1) r).heap[c]? =_;rw[tP b c h r];simp[World.setCell,Array.getElem?_modify,h]
theorem ap3(w:World)(b o:Nat)(v:Value):hU w (w.setCell ⟨b,o,none⟩ v):=⟨rfl,rfl,rfl,fun{c i} h=>by
 obtain⟨⟨u,d⟩,k⟩:=h;refine⟨?_,by simp_all⟩;by_cases e:(⟨b,o,none⟩:Addr)=⟨c,i,none⟩
 ·grind [World.cell?_setCell_same]
 ·exact⟨u,by
   have:=World.cell?_setCells_out b [v] o w ⟨c,i,none⟩ (fun f g=>by
    grind)
   exact this.trans d⟩,fun c a t j h=>by
 by_cases e:b=c
 ·subst e;exact⟨a.setIfInBounds o v,by simp[World.setCell,Array.getElem?_modify,h],aE⟩
 ·exact⟨a,by simpa [World.setCell,Array.getElem?_modify,e]using h,rfl⟩⟩
theorem Hz(b:Nat):∀(a:List Value) (o:Nat) (w:World),hU w (w.setCells b o a)
 |[],_,w=>hU.refl w
 |v::r,o,w=>hU.trans (b:=w.setCell ⟨b,o,none⟩ v) (ap3 w b o v) (Hz b r (o+1) (w.setCell ⟨b,o,none⟩ v))
variable{u:Nat}
theorem CL(m:Rel φ H w)(y:φ h=some Q)(S:bp φ b E)(ap:H.e3 h u b=some c):
 (storeCells ⟨Q.c,Q.base+u,none⟩ E).run P w=.ok () (w.setCells Q.c (Q.base+u) E)∧Ext φ H w φ c (w.setCells Q.c (Q.base+u) E):=by
 obtain⟨cs,g,A,h1,h2,N,p,s⟩:=aqP ap;have bv:=S.length;have b0:=m.len y A;have Z:∀j,j<E.length→(w.cell? ⟨Q.c,Q.base+u+j,none⟩).isSome=true:=fun j W=>by
  obtain⟨⟨a8,hu⟩,_⟩:=m.room y (i:=u+j) aa
  grind
 have a4:∀j,j<E.length→w.frozen? ⟨Q.c,Q.base+u+j,none⟩=false:=fun j W=>by
  obtain⟨_,hu⟩:=m.room y (i:=u+j) aa
  grind
 have Y:=run_storeCells_cells (P:=P) Q.c (Q.base+u) E 0 w (by simpa using Z) (by simpa using a4) (IY S h1);rw[cG]at Y;have bo:=World.cell?_setCells_in Q.c E (Q.base+u) w Z;have a3:∀ {f:Nat}{o:Loc}{B:List V}{r:Nat},φ f=some o→c.get f=.cells B r→c.fV f r=true→f≠h→o.c≠Q.c∧H.get f=.cells B r∧H.fV f r=true:=by
  intro f o B r k d l q;rw[s,aj (fun e=>q e.symm)]at d;have D:H.get f=.cells B r:=by
   split at d
   ·cases d
   ·exact d
  have key:g≠0→r≠g:=by
   intro O R;subst R;rcases p with p|⟨I,p⟩
   ·exact O p
   ·have bs:=m.mem D O p;rcases gB.1 l with e|⟨J,L,t,G⟩
    ·exact O e
    grind
  refine⟨fun z=>?_,D,?_⟩
  ·obtain⟨C,a2,M,R,a0,a1⟩:=(m.inj k y z q).resolve_right (fun n=>by rw[A]at n;cases n.2)
   grind
  ·rcases gB.1 l with e|⟨J,L,t,G⟩
   ·exact gB.2 (.inl e)
   ·rw[s]at t;split at t
    ·cases t
    ·split at t
     ·omega
     ·exact gB.2 (.inr ⟨J,L,t,G⟩)
 have a6:∀ {f:Nat}{o:Loc}{K:om},φ f=some o→c.get f=.cl K→o.base=0∧um φ (w.setCells Q.c (Q.base+u) E) o.c K:=by
  intro f o K k d;have l:h≠f:=by intro e;rw[s,ao e]at d;cases d
  have q:H.get f=.cl K:=by
   rw[s,aj l]at d;split at d
   ·cases d
   ·exact d
  obtain⟨f1,f2⟩:=m.cl k q;refine⟨f1,f2.mono (aG.le_refl φ) (tP _ _ ?_ _ _ _)⟩;intro z;obtain⟨_,_,_,_,C,_⟩:=(m.inj k y z.symm (fun e=>l e.symm)).resolve_right (fun n=>by rw[A]at n;cases n.2);rw[q]at C;cases C
 have X:∀ {f:Nat}{o:Loc},φ f=some o→H.get f=.none→c.get f=.none∧(w.setCells Q.c (Q.base+u) E).heap[o.c]? =w.heap[o.c]? :=by
  intro f o k d;have l:h≠f:=by intro e;rw[←e,A]at d;cases d
  refine⟨?_,tP _ _ ?_ _ _ _⟩
  ·grind
  ·intro z;obtain⟨_,_,_,_,C,_⟩:=(m.inj k y z.symm (fun e=>l e.symm)).resolve_right (fun n=>by rw[A]at n;cases n.2)
   grind
 refine⟨Y,⟨⟨?_,?_,?_,?_,?_,?_,?_,?_,a6,fun e=>(m.fH e).keep (tP _ _ (fun z=>(m.fH e).tO y (by rw[A];simp) z) _ _ _) (fun f o k d=>(X k ((m.fH e).off f o k d)).1),fun{x bc bi} e=>by
  rw[N];rw[s]at e;split at e
  ·cases e;exact m.mJ A
  ·split at e
   ·cases e
   ·exact m.mJ e⟩,aG.le_refl φ,fun k d=>absurd (k.symm.trans d) aE,?_,Nat.le_of_eq N.symm,?_,by rw[z1];exact aF _,Hz _ _ _ _,X,fun _ _ e=>.inl e⟩⟩
 ·intro f o B r i v k d l q;by_cases U:f=h
  ·subst U;rw[y]at k;cases k;rw[s,ao rfl]at d;cases d;rw[aqG _ _ _ _ h2]at q;split at q
   ·rename_i hi;obtain⟨v',D,t⟩:=S.get _ _ q
    grind
   ·rename_i hi;have a5:H.fV f g=true:=by
     rcases p with p|⟨I,p⟩
     ·exact gB.2 (.inl p)
     ·exact gB.2 (.inr ⟨_,I,p,m.mG p⟩)
    obtain⟨v',D,t⟩:=m.cell y A a5 q
    grind [World.cell?_setCells_out]
  ·obtain⟨D,t,G⟩:=a3 k d l U;obtain⟨v',bd,be⟩:=m.cell k t G q
   grind [World.cell?_setCells_out]
 ·intro f o i k d;obtain⟨⟨a8,hu⟩,hf⟩:=m.room k d;refine⟨?_,by grind [World.frozen?_setCells]⟩;by_cases z:o.c=Q.c∧Q.base+u≤o.base+i∧o.base+i<Q.base+u+E.length
  ·have W:o.base+i-(Q.base+u)<E.length:=aa
   grind
  grind [World.cell?_setCells_out]
 ·intro f o B r k d;rw[s]at d;split at d
  ·grind
  ·split at d
   ·cases d
   ·exact m.len k d
 ·intro f b2 o l2 k d l q;rcases m.inj k d l q with⟨C,a2,M,R,a0,a1⟩|⟨n1,n2⟩
  rotate_left
  ·grind
  have a9:∀ {x:Nat}{a:List V},H.get x=.cells a M→∃a',c.get x=.cells a' M:=by
   intro x a hx;rw[s];split
   ·grind
   ·split
    ·grind
    ·exact⟨a,hx⟩
  grind
 ·intro f k;rw[N]at k;obtain⟨d,l⟩:=m.top k
  grind
 ·intro f o k;rw[z1];exact m.loc k
 ·intro f B r J I k d l;have F:∃T,H.get f=.cells T r:=by
   rw[s]at k;split at k
   ·grind
   ·grind
  obtain⟨T,F⟩:=F;rw[s]at l;split at l
  ·cases l
  ·split at l
   ·rename_i hh;cases l;rcases p with p|⟨L,p⟩
    ·exact absurd p hh.2
    ·rw[hh.1]at p;exact m.mem F d p
   ·exact m.mem F d l
 ·intro r J I l;rw[s]at l;split at l
  ·cases l
  ·split at l
   ·grind
   ·exact m.mG l
 ·grind
 grind [tP]
end
def aG.add(φ:aG)(b:Nat)(l:Loc):aG:=⟨fun x=>if x=b then some l else φ x,φ.im⟩
theorem aG.add_get:p.add a Q h=if h=a then some Q else p h:=rfl
theorem aG.tJ(φ:aG)(b:Nat)(l:Loc):φ.add b l b=some l:=by rw[aG.add_get,ao rfl]
theorem aG.vC{l:Loc}(h:p a=none):p.le (p.add a l):=by
 refine⟨?_,fun _ _ h=>h⟩
 grind [aG.add_get]
section
variable {P:Program}{φ:aG}{H:af}{w w':World}
theorem QX(k:Rel φ H w):Rel φ (H.push (.cells b 0)) w:=by
 have m:∀ {d l},φ d=some l→H.next≠d:=fun{d l} h e=>by
  have:=(k.top (b:=d) aa).1
  grind
 have q:∀ {x a d},(H.push (.cells b 0)).get x=.bD a d→H.get x=.bD a d:=by
  intro x a d h;rw[af.aY]at h;split at h
  ·cases h
  ·exact h
 have hl:∀ {d g},d≠H.next→(H.push (.cells b 0)).fV d g=true→H.fV d g=true:=by
  intro d g s h;rcases gB.1 h with e|⟨a,c,e,t⟩
  ·exact gB.2 (.inl e)
  ·exact gB.2 (.inr ⟨a,c,q e,t⟩)
 refine⟨?_,k.room,?_,?_,?_,k.loc,?_,fun e=>k.mG (q e),fun{d l o} f j=>k.cl f (by simp_all [af.aY,aj]),fun e=>(k.fH e).keep rfl (fun d l f j=>by rw[af.aY,aj (m f)];exact(k.fH e).off d l f j),fun{x z u} e=>by
  show u<H.next+1
  rw[af.aY]at e;split at e
  ·cases e;omega
  ·have:=k.mJ e;omega⟩
 ·intro d l r g i v f j n p;rw[af.aY,aj (m f)]at j;exact k.cell f j (hl (fun e=>m f e.symm) n) p
 ·intro d l r g f j;rw[af.aY,aj (m f)]at j;exact k.len f j
 ·intro d y l E f j n p;rw[af.aY,aj (m f),af.aY,aj (m j)];exact k.inj f j n p
 ·intro d s;have D:H.next+1≤d:=s
  obtain⟨B,C⟩:=k.top (b:=d) aa;simp_all [af.aY,aj];omega
 ·intro d r g F A f j n;rw[af.aY]at f;split at f
  ·grind
  ·exact k.mem f j (q n)
theorem QW(j:Rel φ H w)(E:H.get a=.cells b 0)(M:φ a=none)(F:a<H.next)(m:tG φ (.cells b 0) h w w'):
 Rel (φ.add a ⟨w.heap.size,0,h⟩) H w':=by
 obtain⟨O,J,P,I,N⟩:=m.obj;cases J;have A:=aG.vC (l:=⟨w.heap.size,0,h⟩) M;have k:∀ {x:Nat}{l:Loc},φ.add a ⟨w.heap.size,0,h⟩ x=some l→(x=a∧l=⟨w.heap.size,0,h⟩)∨(x≠a∧φ x=some l):=by
  intro x l t;rw[aG.add_get]at t;split at t
  ·grind
  ·grind
 have n:∀ {c i:Nat},c<w.heap.size→w'.cell? ⟨c,i,none⟩=w.cell? ⟨c,i,none⟩:=by
  intro c i n;unfold World.cell?;rw[m.old c n]
 have K:∀ {c i:Nat},c<w.heap.size→w'.frozen? ⟨c,i,none⟩=w.frozen? ⟨c,i,none⟩:=by
  intro c i n;unfold World.frozen?;rw[m.old c n]
 have L:∀ {c:Nat}{x:Obj},φ.im c=some x→p4 (φ.add a ⟨w.heap.size,0,h⟩) H w' c x:=by
  intro c x e;have hi:=j.fH e;have F:=hi.lt;refine hi.keep (m.old c F) ?_;intro y l d f;rcases k d with⟨_,rfl⟩|⟨_,d⟩
  ·grind
  ·exact hi.off _ _ d f
 refine⟨?_,?_,?_,?_,?_,?_,j.mem,j.mG,?_,L,j.mJ⟩
 rotate_right
 ·intro x l o d f;rcases k d with⟨rfl,rfl⟩|⟨_,d⟩
  ·rw[E]at f;cases f
  ·obtain⟨s,r⟩:=j.cl d f;exact⟨s,r.mono A (m.old _ (j.loc d))⟩
 ·intro x l G g i v d f p q;rcases k d with⟨rfl,rfl⟩|⟨_,d⟩
  ·rw[E]at f;cases f;obtain⟨B,u,z⟩:=I i v q;exact⟨B,by simpa using u,z.mono A⟩
  ·obtain⟨B,u,z⟩:=j.cell d f p q;exact⟨B,by rw[n (j.loc d)];exact u,z.mono A⟩
 ·intro x l i d f;rcases k d with⟨rfl,rfl⟩|⟨_,d⟩
  ·simpa using N i f
  ·obtain⟨C,D⟩:=j.room d f;rw[n (j.loc d),K (j.loc d)];exact⟨C,D⟩
 ·intro x l G g d f;rcases k d with⟨rfl,rfl⟩|⟨_,d⟩
  ·grind
  ·exact j.len d f
 ·intro x y l Q d f p q;rcases k d with⟨rfl,rfl⟩|⟨_,s⟩
  ·rcases k f with⟨rfl,rfl⟩|⟨_,r⟩
   ·exact absurd rfl q
   ·have:=j.loc r;simp at p;omega
  ·have hl:=j.loc s;rcases k f with⟨rfl,rfl⟩|⟨_,r⟩
   ·simp at p;omega
   ·exact j.inj s r p q
 ·intro x t;obtain⟨C,D⟩:=j.top t;simp_all [aG.add_get,aj];omega
 ·intro x l d;rw[m.size];rcases k d with⟨rfl,rfl⟩|⟨_,d⟩
  ·simp
  ·have:=j.loc d;omega
theorem ag3(d:Rel φ H w)(h:tG φ (.cells b 0) a w w'):
 Ext φ H w (φ.add H.next ⟨w.heap.size,0,a⟩) (H.push (.cells b 0)) w':=by
 have f:φ H.next=none:=(d.top (aF _)).1
 refine⟨QW (QX d) (by rw[af.aY,ao rfl]) f (by show H.next<H.next+1;omega) h,aG.vC f,?_,?_,by show H.next≤H.next+1;omega,?_,by rw[h.size];omega,h.same,fun{k l} g i=>⟨by rw[af.aY,aj (fun e=>by grind)];exact i,h.old _ (d.loc g)⟩,fun _ _ e=>.inl e⟩
 ·simp_all [aG.add_get,aF]
 ·simp_all [af.aY,aj];omega
 ·intro c j _;exact h.old c j
end
section
variable {P:Program}{φ:aG}{H:af}{w:World}
def Fits(P:Program)(w:World)(b n:Nat)(x:Value)(a:List Value):Prop:=
 (Builtin.lenOf x).run P w=.ok n w∧∀k,(Builtin.firstCells b n x).run P { w with drawn:=w.drawn+k }=.ok ⟨a⟩ { w with drawn:=w.drawn+k }
variable{y:Array TypeId}{u:Nat}{L:Nat}
theorem tK{st:TypeId}(s:P.underlying st=some (.slice g)){i:TypeInfo}(hi:P.info? g=some i){c v:TypeId}(t:P.underlying c=some C)(z:∀k,C≠ .int k)
 (f:y[0]? =some st) (j:y[1]? =some c) {a:Addr} (l:Fits P w i.size L x E) (o:h+L≤u)
 (p:(storeCells (a.add (h*i.size)) E).run P w=.ok () q):
 (Builtin.append_ y v #[.slice (some a) h u,x]).run P w=.ok (.slice (some a) (h+L) u) q:=by
 obtain⟨m,n⟩:=l;have b:=n 0;simp only[cG]at b;unfold Builtin.append_;have d:(#[Value.slice (some a) h u,x]:Array Value)[0]? =some (.slice (some a) h u):=rfl;have e:(#[Value.slice (some a) h u,x]:Array Value)[1]? =some x:=rfl;have r:(sizeOf g).run P w=.ok i.size w:=by simp[sizeOf,qL hi]
 simp only[f,j,d,e,eg,run_underlying s,eH,r,run_underlying t,fZ,iM,if_false,m,ao o,je,if_true,b,p]
theorem DF{st:TypeId}(G:P.underlying st=some (.slice g)){i:TypeInfo}(hi:P.info? g=some i)(I:i.zero=some x)(J:x.cells.size=i.size){f ty:TypeId}(H:P.underlying f=some C)(Q:∀k,C≠ .int k)
 (m:y[0]? =some st) (d:y[1]? =some f) {a:Option Addr}{len cap:Nat}{b:Value}{old:List Value} (r:Fits P w i.size h b E) (v:cap<len+h)
 (B:∀k,(Builtin.firstCells i.size len (.slice a len cap)).run P { w with drawn:=w.drawn+k }=.ok ⟨old⟩ { w with drawn:=w.drawn+k })
 (N:len+h≤1099511627776) (O:(len+h)*i.bytes≤1099511627776):
 ∃c,len+h≤c∧∃e:List Value,e.length=(c-(len+h))*i.size∧
  (Builtin.append_ y ty #[.slice a len cap,b]).run P w=.ok (.slice (some ⟨w.heap.size,0,none⟩) (len+h) c) (w.drew.alloc (.cells ⟨old++E++e⟩ g)):=by
 obtain⟨s,t⟩:=r;have u:=t 1;have D:=B 1;have F:∀w,(sizeOf g).run P w=.ok i.size w:=by intro w;simp[sizeOf,qL hi]
 have j:(#[Value.slice a len cap,b]:Array Value)[0]? =some (.slice a len cap):=rfl;have l:(#[Value.slice a len cap,b]:Array Value)[1]? =some b:=rfl;have A:¬(len+h≤cap):=aa;have z:¬(((len+h:Nat):Int)>IntKind.i64.max):=by
  have:IntKind.i64.max=9223372036854775807:=ag;rw[this];omega
 have p:¬(Builtin.nextslicecap (len+h) cap*i.bytes>2^48):=by
  have d:=nextslicecap_le v;have K:Builtin.nextslicecap (len+h) cap*i.bytes≤(2*(len+h)+200)*i.bytes:=ee _ d;have L:(2*(len+h)+200)*i.bytes=2*((len+h)*i.bytes)+200*i.bytes:=by grind
  have M:i.bytes≤(len+h)*i.bytes:=Nat.le_mul_of_pos_left _ aa;omega
 let c:=Question.cut (.appendCap (len+h) cap g) (w.tape w.drawn (.appendCap (len+h) cap g));have o:len+h≤c:=sg _ _;have q:(choose (.appendCap (len+h) cap g)).run P w=.ok c { w with drawn:=w.drawn+1 }:=by simp[Question.forced,c]
 refine⟨c,o,(Builtin.zeroCells x.cells (c-(len+h))).toList,by simp[Builtin.zeroCells,J],?_⟩;unfold Builtin.append_;simp only[m,d,j,l,eg,run_underlying G,eH,F,run_underlying H,fZ,iM,if_false,s,aj A,je,if_true];simp only[z,false_and,if_false,eg,fZ,eH,qL hi,aj p,q,run_askRoom,D,u,s4 hi I,newRow,run_newObj];have n:(({ toList:=old }++ { toList:=E }++Builtin.zeroCells x.cells (c-(len+h)):Array Value))= { toList:=old++E++(Builtin.zeroCells x.cells (c-(len+h))).toList }:=by
  apply uM;simp
 rw[n];rfl
end
section
variable {P:Program}{φ:aG}{H H':af}{w w':World}
structure wu (H H':af) (g:Nat) (cs:List V):Prop where
 get:∀x,H'.get x=if x=H.next then .cells cs g else if x=g then .bD H.next H.next else H.get x
 lo:H.next<H'.next
 hi:g<H'.next
 g0:g≠0
 vu:g≠H.next
 old:H.next≤g∨∃leaf tU,H.get g=.bD leaf tU
theorem NH(s:Rel φ H w)(f:wu H H' h b){l:Loc}
 (bd:∀ {x:Nat}{d:Loc}{k:List V}{m i:Nat},φ x=some d→H.get x=.cells k m→m≠h→w'.cell? ⟨d.c,d.base+i,none⟩=w.cell? ⟨d.c,d.base+i,none⟩)
 (bo:∀ {x:Nat}{d:Loc}{i:Nat},φ x=some d→i<d.ko→(∃z,w'.cell? ⟨d.c,d.base+i,none⟩=some z)∧w'.frozen? ⟨d.c,d.base+i,none⟩=false)
 (a1:∀ {i:Nat}{v:V},b[i]? =some v→∃z,w'.cell? ⟨l.c,l.base+i,none⟩=some z∧aL φ v z)
 (bj:∀ {i:Nat},i<l.ko→(∃z,w'.cell? ⟨l.c,l.base+i,none⟩=some z)∧w'.frozen? ⟨l.c,l.base+i,none⟩=false)
 (ar:b.length≤l.ko) (O:∀ {x:Nat}{d:Loc},φ x=some d→d.c=l.c→∃k,H.get x=.cells k h)
 (aw:l.c<w'.heap.size) (W:w.heap.size≤w'.heap.size) (ap:∀ {t:Nat},t<w.heap.size→(∀q l,φ q=some l→l.c≠t)→w'.heap[t]? =w.heap[t]?) (hs:hU w w')
 (ae:w.heap.size≤l.c∨∃P K,φ P=some K∧K.c=l.c)
 (a2:∀ {x:Nat}{d:Loc}{o:om},φ x=some d→H.get x=.cl o→w'.heap[d.c]? =w.heap[d.c]?)
 (U:∀ {x:Nat}{d:Loc},φ x=some d→H.get x=.none→w'.heap[d.c]? =w.heap[d.c]?):Ext φ H w (φ.add H.next l) H' w':=by
 have hn:φ H.next=none:=(s.top (aF _)).1
 have J:=aG.vC (l:=l) hn;have ad:∀ {x:Nat}{d:Loc},φ x=some d→x<H.next:=by
  intro x d u;rcases oe x H.next with h1|h1
  ·exact h1
  ·rw[(s.top h1).1]at u;cases u
 have bc:∀ {x:Nat},H.get x≠ .none→x<H.next:=by
  intro x u;rcases oe x H.next with h1|h1
  ·exact h1
  ·exact absurd (s.top h1).2 u
 have A:∀ {x:Nat}{d:Loc},φ.add H.next l x=some d→(x=H.next∧d=l)∨(x≠H.next∧φ x=some d):=by
  intro x l B;rw[aG.add_get]at B;split at B
  ·grind
  ·grind
 have M:∀ {x:Nat}{k:List V}{m:Nat},x≠H.next→H'.get x=.cells k m→H.get x=.cells k m:=by
  intro x k m h1 p;rw[f.get,aj h1]at p;split at p
  ·cases p
  ·exact p
 have N:∀ {x a q:Nat},x≠h→H'.get x=.bD a q→H.get x=.bD a q:=by
  intro x a q h1 p;rw[f.get]at p;by_cases E:x=H.next
  ·grind
  ·grind
 have S:∀ {x:Nat}{k:List V}{m:Nat},H.get x=.cells k m→H'.get x=.cells k m:=by
  intro x k m h1;rw[f.get,aj (by grind),aj ?_]
  ·exact h1
  ·intro e;subst e;rcases f.old with u|⟨a,q,u⟩
   ·grind
   grind
 have a3:∀ {x:Nat}{d:Loc}{o:om},φ.add H.next l x=some d→H'.get x=.cl o→d.base=0∧um (φ.add H.next l) w' d.c o:=by
  intro x d o j g;rcases A j with⟨h1,_⟩|⟨h1,r⟩
  ·rw[f.get,ao h1]at g;cases g
  ·have n:H.get x=.cl o:=by
    rw[f.get,aj h1]at g;split at g
    ·cases g
    ·exact g
   obtain⟨G,Y⟩:=s.cl r n;exact⟨G,Y.mono J (a2 r n)⟩
 have T:∀ {x:Nat}{d:Loc},φ x=some d→H.get x=.none→H'.get x=.none∧w'.heap[d.c]? =w.heap[d.c]? :=by
  intro x d j g;refine⟨?_,U j g⟩;have B:=ad j;rw[f.get,aj aa];split
  ·rename_i e;subst e;rcases f.old with u|⟨a,q,u⟩
   ·omega
   grind
  ·exact g
 have am:∀ {t:Nat}{x:Obj},φ.im t=some x→p4 (φ.add H.next l) H' w' t x:=by
  intro t x e;have hi:=s.fH e;have be:=hi.lt;have a5:w'.heap[t]? =w.heap[t]? :=by
   by_cases hc:∃q l,φ q=some l∧l.c=t
   ·obtain⟨q,K,j,g⟩:=hc;rw[←g];exact U j (hi.off _ _ j g)
   ·grind
  refine hi.keep a5 ?_;intro y d j g;rcases A j with⟨_,rfl⟩|⟨_,r⟩
  ·rcases ae with h1|⟨P,K,h1,p⟩
   ·omega
   ·obtain⟨k,E⟩:=O h1 p;rw[hi.off _ _ h1 (p.trans g)]at E;cases E
  ·exact(T r (hi.off _ _ r g)).1
 refine⟨⟨?_,?_,?_,?_,?_,?_,?_,?_,a3,am,fun{x a8 ba} e=>by
  rw[f.get]at e;split at e
  ·cases e;exact f.hi
  ·split at e
   ·cases e
   ·exact qg (s.mJ e) f.lo⟩,J,?_,?_,hO f.lo,ap,W,hs,T,fun _ _ e=>.inl e⟩
 ·intro x d k m i v j g n I;rcases A j with⟨rfl,rfl⟩|⟨h1,r⟩
  ·rw[f.get,ao rfl]at g;cases g;obtain⟨z,C,D⟩:=a1 I;exact⟨z,C,D.mono J⟩
  ·have X:=M h1 g;have al:m≠h:=by
    intro e;subst e;rcases gB.1 n with e|⟨a,q,C,D⟩
    ·exact f.g0 e
    ·rw[f.get,aj f.vu,ao rfl]at C
     grind
   have hl:H.fV x m=true:=by
    rcases gB.1 n with e|⟨a,q,C,D⟩
    ·exact gB.2 (.inl e)
    ·exact gB.2 (.inr ⟨a,q,N al C,D⟩)
   obtain⟨z,C,D⟩:=s.cell r X hl I;exact⟨z,by grind,D.mono J⟩
 ·grind
 ·intro x d k m j g;rcases A j with⟨rfl,rfl⟩|⟨h1,r⟩
  ·rw[f.get,ao rfl]at g;cases g;exact ar
  ·exact s.len r (M h1 g)
 ·intro x y d l2 j g n I;rcases A j with⟨h1,ab⟩|⟨h1,r⟩
  ·rcases A g with⟨p,Q⟩|⟨p,G⟩
   ·omega
   ·rw[ab]at n;obtain⟨k,L⟩:=O G n.symm;exact .inl ⟨b,k,h,f.g0,by rw[f.get,ao h1],S L⟩
  ·rcases A g with⟨p,Q⟩|⟨p,G⟩
   ·rw[Q]at n;obtain⟨k,L⟩:=O r n;exact .inl ⟨k,b,h,f.g0,S L,by rw[f.get,ao p]⟩
   ·rcases s.inj r G n I with⟨a,a',gg,E,R,h5⟩|⟨n1,n2⟩
    ·grind
    grind
 ·intro x B;have h1:=f.lo;have p:=f.hi;obtain⟨E,R⟩:=s.top (b:=x) aa;refine⟨?_,?_⟩
  ·rw[aG.add_get,aj aa];exact E
  ·rw[f.get,aj aa,aj aa];exact R
 ·intro x d j;rcases A j with⟨rfl,rfl⟩|⟨_,r⟩
  ·exact aw
  ·exact eF (s.loc r) W
 ·intro x k m a6 Z j g n;by_cases F:m=h
  ·subst F;rw[f.get,aj f.vu,ao rfl]at n
   grind
  ·have B:x≠H.next:=by
    intro e;rw[f.get,ao e]at j;cases j;exact F rfl
   exact s.mem (M B j) g (N F n)
 ·intro m a6 Z n;by_cases F:m=h
  ·subst F;rw[f.get,aj f.vu,ao rfl]at n
   grind
  ·exact s.mG (N F n)
 ·grind
 ·intro x B _ bi;rw[f.get,aj aa];split
  ·rename_i e;subst e;rcases f.old with u|⟨a,q,u⟩
   ·omega
   grind
  ·rfl
theorem FW{r:V×af}(c:kJ H a h b=some r):r.1=.slice H.next 0 h (.grown a)∧wu H r.2 (H.next+1) b:=by
 cases c;refine⟨rfl,⟨fun x=>?_,by show H.next<H.next+1+1;omega,by show H.next+1<H.next+1+1;omega,aa,aa,.inl aa⟩⟩
 show((H.push (.cells b (H.next+1))).push (.bD H.next H.next)).get x=_
 rw[af.aY,af.aY];have e:(H.push (.cells b (H.next+1))).next=H.next+1:=rfl
 grind
variable{u:Nat}
theorem aiA(n:Rel φ H w){r:V×af}(c:oW H a h u b=some r):
 r.1=.slice H.next 0 u (.grown a)∧∃f g,H.get h=.cells f g∧wu H r.2 g b:=by
 unfold oW at c;cases k:H.get h with
 |cells f g=>
  rw[k]at c
  have i:cR.casesOn (motive:=fun _=>Option (V×af)) (H.get g) aJ (fun _ _=>aJ)
   (fun l _=>aQ (and (bn l h) (!(fh g))) (some (.slice H.next 0 u (.grown a),(H.push (.cells b g)).set g (.bD H.next H.next))))
   (fun _=>aJ)=some r:=c
  clear c;have c:=i;clear i;cases d:H.get g with
  |bD l o=>
   rw[d]at c;obtain⟨j,c⟩:=cL.1 c;cases c;rw[cC]at j;have m:g≠0:=by intro e;subst e;simp[fh]at j
   have p:g<H.next:=by
    rcases oe g H.next with h2|h2
    ·exact h2
    ·rw[(n.top h2).2]at d;cases d
   refine⟨rfl,f,g,rfl,⟨fun x=>?_,by show H.next<H.next+1;omega,by show g<H.next+1;omega,m,aa,.inr ⟨_,_,d⟩⟩⟩
   show(((H.push (.cells b g)).set g (.bD H.next H.next))).get x=_
   rw[af.aK,af.aY]
   grind
  |_=>rw[d]at c;cases c
 |_=>rw[k]at c;cases c
end
section
variable {P:Program}{φ:aG}{H H':af}{w w':World}
theorem Rel.drew(h:Rel φ H w)(k:Nat):Rel φ H { w with drawn:=w.drawn+k }:=⟨h.cell,h.room,h.len,h.inj,h.top,h.loc,h.mem,h.mG,fun a b=>let⟨c,d⟩:=h.cl a b;⟨c,d.mono (aG.le_refl φ) rfl⟩,fun e=>(h.fH e).keep rfl (h.fH e).off,h.mJ⟩
variable{u:Nat}{r:V}
theorem Bu(A:Rel φ H w)(J:aL φ r x)(d:dX H h u r=some b):
 ∃B,bp φ b B∧∀k,(Builtin.firstCells h u x).run P { w with drawn:=w.drawn+k }=.ok ⟨B⟩ { w with drawn:=w.drawn+k }:=by
 cases J<;>first|(cases d;done)|skip
 ·rename_i s;obtain⟨_,d⟩:=cL.1 (show aQ (bn h 1) _=some b from d);obtain⟨t,g,d⟩:=av.1 (show an (cj s u) _=some b from d);cases d;rw[eZ]at g;split at g
  ·cases g;refine⟨_,JW _,fun k=>?_⟩;simp only[Builtin.firstCells,fZ];simp_all
  ·cases g
 ·rename_i C o N K i l E L M;obtain⟨v,j,n,p⟩:=xE A E (show H.cP C o (u*h)=some b from d);refine⟨v,n,fun k=>?_⟩;exact zW j p
 ·obtain⟨_,d⟩:=cL.1 (show aQ (fh u) (some [])=some b from d);cases d;exact⟨[],.nil,fun k=>rfl⟩
 ·rename_i a i;obtain⟨e,d⟩:=cL.1 (show aQ (fh u) (some [])=some b from d);cases d;have q:u=0:=(beq_eq _ _).1 e;subst q;refine⟨[],.nil,fun k=>?_⟩;simp[Builtin.firstCells,loadCells,loadCellsFrom]
 ·rename_i a i _;have f:cj [] (u*h)=some b:=d;rw[eZ]at f;split at f
  ·rename_i z;cases f;have e:u*h=0:=by simpa using z
   refine⟨[],by simpa using bp.nil,fun k=>?_⟩;cases a<;>simp[Builtin.firstCells,loadCells,loadCellsFrom,e]
  ·cases f
 ·rename_i m c o i D O y hi F I z;have G:cj (ej D 0) (u*h)=some b:=by rw[kj];exact d
  obtain⟨v,j,n,p⟩:=Hp A hi F I G;refine⟨v,n,fun k=>?_⟩;exact zW j p
 ·rename_i a;obtain⟨e,d⟩:=cL.1 (show aQ (fh u) (some [])=some b from d);cases d;have q:u=0:=(beq_eq _ _).1 e;subst q;refine⟨[],.nil,fun k=>?_⟩;cases a<;>simp[Builtin.firstCells,loadCells,loadCellsFrom]
theorem BW(b:aL φ r x)(h:kn r=some a):(Builtin.lenOf x).run P w=.ok a w:=by
 cases b<;>first|(cases h;done)|skip
 ·rename_i s;cases h;show Result.ok _ w=_;rw[gV];rfl
 all_goals(cases h;rfl)
theorem FL(b:i_ a h=true):a≤1099511627776∧a*h≤1099511627776:=by
 unfold i_ at b;simp_all
theorem Fz(f:Rel φ H w)(q:wu H H' a b){rest:List Value}(m:bp φ b E){e:TypeId}:
 Ext φ H w (φ.add H.next ⟨w.heap.size,0,E.length+rest.length⟩) H' (w.drew.alloc (.cells ⟨E++rest⟩ e)):=by
 have n:∀ {c i:Nat},c<w.heap.size→(w.drew.alloc (.cells ⟨E++rest⟩ e)).cell? ⟨c,i,none⟩=w.cell? ⟨c,i,none⟩:=by
  intro c i h;exact World.cell?_alloc_past (w:=w.drew) _ c i h
 have r:∀i,(w.drew.alloc (.cells ⟨E++rest⟩ e)).cell? ⟨w.heap.size,0+i,none⟩=(E++rest)[i]? :=by
  intro i;have:=World.cell?_alloc_at (w:=w.drew) (⟨E++rest⟩:Array Value) e w.heap.size (0+i) rfl;rw[this];simp
 have j:∀ {c:Nat},c<w.heap.size→(w.drew.alloc (.cells ⟨E++rest⟩ e)).heap[c]? =w.heap[c]? :=by
  intro c h;show(w.heap.push _)[c]? =_;simp[Array.getElem?_push,Nat.ne_of_lt h]
 have s:∀ {c i:Nat},c<w.heap.size→(w.drew.alloc (.cells ⟨E++rest⟩ e)).frozen? ⟨c,i,none⟩=w.frozen? ⟨c,i,none⟩:=by
  intro c i h;unfold World.frozen?;rw[j h]
 refine NH f q ?_ ?_ ?_ ?_ ?_ ?_ ?_ ?_ ?_ ?_ (.inl (aF _)) (fun d _=>j (f.loc d)) (fun d _=>j (f.loc d))
 ·intro x o y z i d _ _;exact n (f.loc d)
 ·intro x o i d g;obtain⟨k,l⟩:=f.room d g;rw[n (f.loc d),s (f.loc d)];exact⟨k,l⟩
 ·intro i v u;obtain⟨B,k,l⟩:=m.get i v u
  grind
 ·intro i hi;have A:i<(E++rest).length:=by simpa using hi
  refine⟨⟨(E++rest)[i],by rw[r];simp⟩,?_⟩;show(match(w.heap.push (.cells ⟨E++rest⟩ e (0,0)))[w.heap.size]? with|some (.cells _ _ (lo,hi))=>decide (lo≤0+i)&&decide (0+i<hi)|_=>false)=false;simp
 ·have:=m.length
  grind
 ·intro x o d g;have:=f.loc d;simp at g;omega
 ·simp_all
 ·grind
 ·grind
 ·exact⟨rfl,rfl,rfl,fun h=>(hU.alloc w.drew _).free h,fun c b t p h=>(hU.alloc w.drew _).shape c b t p h⟩
variable{L:Nat}
theorem ag4(f:Rel φ H w){o:List V}(I:wu H H' a (b++o))(l:φ h=some Q){C:List V}(K:H.get h=.cells C a){e:List Value}
 (y:bp φ b E) (ae:E.length=L) (ad:∀j v,E[j]? =some v→w.cell? ⟨Q.c,Q.base+u+j,none⟩=some v) (p:bp φ o e) (F:cK o=true) (ab:u+L+o.length≤Q.ko):
 (storeCells ⟨Q.c,Q.base+u+L,none⟩ e).run P w=.ok () (w.setCells Q.c (Q.base+u+L) e)∧
 Ext φ H w (φ.add H.next ⟨Q.c,Q.base+u,Q.ko-u⟩) H' (w.setCells Q.c (Q.base+u+L) e):=by
 have ac:=p.length;have A:∀j,j<e.length→(w.cell? ⟨Q.c,Q.base+u+L+j,none⟩).isSome=true:=fun j t=>by
  obtain⟨⟨R,B⟩,_⟩:=f.room l (i:=u+L+j) aa
  grind
 have J:∀j,j<e.length→w.frozen? ⟨Q.c,Q.base+u+L+j,none⟩=false:=fun j t=>by
  obtain⟨_,B⟩:=f.room l (i:=u+L+j) aa
  grind
 have z:=run_storeCells_cells (P:=P) Q.c (Q.base+u+L) e 0 w (by simpa using A) (by simpa using J) (IY p F);rw[cG]at z;have Z:=World.cell?_setCells_in Q.c e (Q.base+u+L) w A;have N:∀ {x:Nat}{d:Loc}{i:Nat},φ x=some d→i<d.ko→(∃q,(w.setCells Q.c (Q.base+u+L) e).cell? ⟨d.c,d.base+i,none⟩=some q)∧(w.setCells Q.c (Q.base+u+L) e).frozen? ⟨d.c,d.base+i,none⟩=false:=by
  intro x d i g k;obtain⟨⟨R,B⟩,Y⟩:=f.room g k;refine⟨?_,by grind [World.frozen?_setCells]⟩;by_cases s:d.c=Q.c∧Q.base+u+L≤d.base+i∧d.base+i<Q.base+u+L+e.length
  ·have t:d.base+i-(Q.base+u+L)<e.length:=aa
   grind
  ·grind [World.cell?_setCells_out]
 have M:∀ {x:Nat}{d:Loc},φ x=some d→d.c=Q.c→∃D,H.get x=.cells D a:=by
  intro x d g k;by_cases O:x=h
  ·grind
  ·obtain⟨S,T,U,r,W,X⟩:=(f.inj g l k O).resolve_right (fun n=>by rw[K]at n;cases n.2)
   grind
 have al:=y.length;refine⟨z,NH f I ?_ N ?_ ?_ ?_ M ?_ ?_ ?_ (Hz _ _ _ _) (.inr ⟨h,Q,l,rfl⟩) (fun g k=>tP _ _ (fun s=>by grind) _ _ _) (fun g k=>tP _ _ (fun s=>by grind) _ _ _)⟩
 ·grind [World.cell?_setCells_out]
 ·intro i v m;by_cases hi:i<b.length
  ·rw[p8 hi]at m;obtain⟨q,G,r⟩:=y.get i v m
   grind [World.cell?_setCells_out]
  ·rw[tv aa]at m;obtain⟨q,G,r⟩:=p.get _ v m
   grind
 ·grind
 ·grind
 ·show Q.c<_;rw[z1];exact f.loc l
 ·rw[z1];exact aF _
 grind [tP]
end
def tr(P:Program)(φ:aG)(H:af)(w:World)(ρ:Operand→Value)(o:Oper)(v:V)(H':af):Prop:=
 ∃bG a w' b,(execOp ρ o).run P w=.ok bG w'∧(bG=.value a∨(bG=.skip∧a=undef))∧Ext φ H w b H' w'∧aL b v a
section
variable {P:Program}{φ:aG}{H H':af}{w w':World}{ρ:Operand→Value}{T:cc}{N:eT}{F:Fr}{dst:Option Tmp}{ty:TypeId}{pos:String}{after:Array Edge}{guard:Option (Nat×Bool)}
theorem aqQ(hT:cT P T)(u:Rel φ H w)(t:iV T g=some h){y:Operand}{a v:V}(e:aL φ a (ρ k))(i:aL φ v (ρ y)){r:V×af}(c:oI h [a,v] H=some r):
 tr P φ H w ρ ⟨dst,.store g k y,ty,pos,after,guard⟩ r.1 r.2:=by
 generalize z:ρ k=D at e
 generalize A:ρ y=B at i
 cases e<;>first|(cases c;done)|skip
 rename_i b o l p;obtain⟨d,c⟩:=cL.1 (show aQ (and (aZ v) (bn (cn (cellsOf v)) h)) (an (H.e3 b o (cellsOf v)) fun H=>some (V.undef,H))=some r from c);obtain⟨C,n,c⟩:=av.1 c;cases c;rw[cC,beq_eq,gV]at d;obtain⟨q,d⟩:=d;have f:=AN i q;obtain⟨j,m⟩:=CL (P:=P) u p f n;have s:=f.length;refine⟨.skip,undef,_,φ,?_,.inr ⟨rfl,rfl⟩,m,.aA .nil⟩;have x:B.cells.size=h:=by simp at s;omega
 simp only[execOp,Instr.storeAt,z,A,wv,storeVar];simp[l_ hT t,x,j]
theorem Tq(a:Rel φ H w){v:V}(b:aL φ v (ρ k)):tr P φ H w ρ ⟨dst,.assign k,ty,pos,after,guard⟩ v H:=
 ⟨.value (ρ k),ρ k,w,φ,by simp[execOp],.inl rfl,Ext.refl a,b⟩
variable{r:V}
theorem N4(h:dX H a 0 r=some b):b=[]:=by
 cases r<;>first|(cases h;done)|skip
 ·rename_i s;obtain⟨_,h⟩:=cL.1 (show aQ (bn a 1) _=some b from h);obtain⟨t,d,h⟩:=av.1 (show an (cj s 0) _=some b from h);cases h;rw[eZ]at d;simp at d;subst d;rfl
 ·rename_i e o j f;obtain⟨c,i,h⟩:=av.1 (show an (H.cells? e) (fun c=>cj (ej c o) (eM 0 a))=some b from h);simp_all [jg,eZ]
 ·obtain⟨_,h⟩:=cL.1 (show aQ (fh 0) (some [])=some b from h);cases h;rfl
 ·obtain⟨_,h⟩:=cL.1 (show aQ (fh 0) (some [])=some b from h);cases h;rfl
 ·rename_i m c;have g:cj c (eM 0 a)=some b:=h;simp_all [jg,eZ]
 ·obtain⟨_,h⟩:=cL.1 (show aQ (fh 0) (some [])=some b from h);cases h;rfl
theorem ahr(c:dX H a h r=some b):b.length=h*a:=by
 cases r<;>first|(cases c;done)|skip
 ·rename_i s;obtain⟨d,c⟩:=cL.1 (show aQ (bn a 1) _=some b from c);obtain⟨t,k,c⟩:=av.1 (show an (cj s h) _=some b from c)
  grind [beq_eq,eZ,amE]
 ·rename_i f o l g;obtain⟨e,j,c⟩:=av.1 (show an (H.cells? f) (fun e=>cj (ej e o) (eM h a))=some b from c)
  grind [eZ,dP,m4]
 ·obtain⟨d,c⟩:=cL.1 (show aQ (fh h) (some [])=some b from c);cases c;have:h=0:=(beq_eq _ _).1 d;subst this;simp
 ·obtain⟨d,c⟩:=cL.1 (show aQ (fh h) (some [])=some b from c);cases c;have:h=0:=(beq_eq _ _).1 d;subst this;simp
 ·rename_i m e;have i:cj e (eM h a)=some b:=c
  grind [eZ,dP,m4]
 ·obtain⟨d,c⟩:=cL.1 (show aQ (fh h) (some [])=some b from c);cases c;have:h=0:=(beq_eq _ _).1 d;subst this;simp
variable{y:Array TypeId}
theorem DG{st:TypeId}(n:P.underlying st=some (.slice g)){i:TypeInfo}(hi:P.info? g=some i){b ty:TypeId}(o:P.underlying b=some C)(p:∀k,C≠ .int k)
 (e:y[0]? =some st) (f:y[1]? =some b) (h:Fits P w i.size 0 x E):
 (Builtin.append_ y ty #[.slice none 0 0,x]).run P w=.ok (.slice none 0 0) w:=by
 obtain⟨j,l⟩:=h;have a:=l 0;simp only[cG]at a;unfold Builtin.append_;have c:(#[Value.slice none 0 0,x]:Array Value)[0]? =some (.slice none 0 0):=rfl;have d:(#[Value.slice none 0 0,x]:Array Value)[1]? =some x:=rfl;have m:(sizeOf g).run P w=.ok i.size w:=by simp[sizeOf,qL hi]
 simp only[e,f,c,d,eg,run_underlying n,eH,m,run_underlying o,fZ,iM,if_false,j,cG,aF,je,if_true,a]
theorem Tm(hT:cT P T)(f:Rel φ H w){st xt:TypeId}{i:TypeInfo}(hu:T.bt st=some (.slice g))(hi:T.info g=some i)(hz:zeroCells T g=some b)(dt:b.length=i.size)
 (D:P.underlying xt=some C) (v:∀I,C≠ .int I) (s:y[0]? =some st) (t:y[1]? =some xt) {x:Operand}{ap:V} (hs:aL φ r (ρ k)) (hy:aL φ ap (ρ x)) {al:V×af} (h:fA i.size i.bytes [r,ap] H=some al):
 tr P φ H w ρ ⟨dst,.call ⟨.builtin .append,#[k,x],y⟩,ty,pos,after,guard⟩ al.1 al.2:=by
 obtain⟨n,hn,bc⟩:=av.1 (show an (kn ap) _=some al from h);obtain⟨a8,a2,bd⟩:=av.1 bc;clear h bc;have h:=bd;clear bd;obtain⟨a9,M,c2⟩:=Bu (P:=P) f hy a2;have cs:=BW (P:=P) (w:=w) hy hn;have u:Fits P w i.size n (ρ x) a9:=⟨cs,c2⟩;obtain⟨d,z,p,a5,dk⟩:=yu hT hz;have co:d=i:=by have:=hT.info g i hi;rw[p]at this;exact Option.some.inj this
 subst co;have a7:z.cells.size=d.size:=by have:=(dk φ).length;simp at this;omega
 have A:∀ {am yv:Value}{v':Value}{w':World},ρ k=am→ρ x=yv→(Builtin.append_ y ty #[am,yv]).run P w=.ok v' w'→
  (execOp ρ ⟨dst,.call ⟨.builtin .append,#[k,x],y⟩,ty,pos,after,guard⟩).run P w=.ok (.value v') w':=by
  intro am yv v' w' F G J;simp only[execOp,resolve,invoke,builtin];simp[F,G,J]
 have B:=hT.bt hu;generalize q:ρ k=am at hs
 unfold jJ at h;by_cases bj:n=0
 ·subst bj;have a6:fh 0=true:=rfl;rw[a6]at h;have c':a8=[]:=N4 a2;subst c';cases M;cases hs<;>first|(cases h;done)|skip
  ·rename_i l K bi U;cases h;exact⟨_,_,_,φ,A q rfl (tK B p D v s t u aa rfl),.inl rfl,Ext.refl f,.slice K bi U⟩
  ·cases h;exact⟨_,_,_,φ,A q rfl (DG B p D v s t u),.inl rfl,Ext.refl f,.ak⟩
  ·cases h;exact⟨_,_,_,φ,A q rfl (tK B p D v s t u aa rfl),.inl rfl,Ext.refl f,.emp _ _⟩
  ·rename_i a j be;cases h;cases a with
   |none=>
    rw[be rfl]at q;exact⟨_,_,_,φ,A q rfl (DG B p D v s t u),.inl rfl,Ext.refl f,.fj _ _ (fun _=>rfl)⟩
   |some a=>exact⟨_,_,_,φ,A q rfl (tK B p D v s t u aa rfl),.inl rfl,Ext.refl f,.fj _ _ be⟩
  ·rename_i m R o j dp vs ap ci L hv E;cases h;exact⟨_,_,_,φ,A q rfl (tK B p D v s t u aa rfl),.inl rfl,Ext.refl f,.row ci L hv E⟩
  ·rename_i a;cases h;cases a with
   |none=>exact⟨_,_,_,φ,A q rfl (DG B p D v s t u),.inl rfl,Ext.refl f,.gT _⟩
   |some a=>exact⟨_,_,_,φ,A q rfl (tK B p D v s t u aa rfl),.inl rfl,Ext.refl f,.gT _⟩
 ·have a6:fh n=false:=lq.2 (fun g=>bj ((beq_eq _ _).1 g));rw[a6]at h;have bo:a9.length=n*d.size:=by rw[←M.length];exact ahr a2
  cases hs<;>first|(cases h;done)|skip
  ·rename_i b0 o e b1 j l K bi U;obtain⟨Y,h⟩:=cL.1 h;obtain⟨a0,a1⟩:=FL Y
   have ds:∀ {ab:List V},H.cP b0 o (e*d.size)=some ab→j<e+n→∀ {aw:Nat}{W:af},wu H W aw (ab++a8)→
    tr P φ H w ρ ⟨dst,.call ⟨.builtin .append,#[k,x],y⟩,ty,pos,after,guard⟩ (.slice H.next 0 (e+n) (.grown d.size)) W:=by
    intro ab ad ch aw W hA;obtain⟨a',F,G,J⟩:=xE f K ad
    obtain⟨R,L,ac,O,Q⟩:=DF (P:=P) (w:=w) (ty:=ty) B p a5 a7 D v s t (a:=some ⟨l.c,l.base+o,none⟩) (len:=e) (cap:=j) (old:=a') u ch
     (fun I=>zW (w:= { w with drawn:=w.drawn+I }) F J) a0 a1
    have X:=Fz (w:=w) f hA (rest:=ac) (G.append M) (e:=g);refine⟨_,_,_,_,A q rfl Q,.inl rfl,X,.slice (aG.tJ _ _ _) L ?_⟩;show 0+R*d.size≤_;have ar:(a'++a9).length=(e+n)*d.size:=by
     grind
    rw[ar,O,←eu,eJ];exact ee _ aa
   cases b1 with
   |known I=>
    have Z:j=I:=U;subst Z;by_cases E:e+n≤j
    ·have g:bL (gF e n) j=true:=(fB _ _).2 E;simp only[g]at h;obtain⟨W,a4,h⟩:=av.1 h;cases h;obtain⟨F,G⟩:=CL (P:=P) f K M a4;have J:l.base+(gF o (eM e d.size))=l.base+o+e*d.size:=by
      show l.base+(o+e*d.size)=_;omega
     rw[J]at F G;exact⟨_,_,_,φ,A q rfl (tK B p D v s t u E (by rw[mz];exact F)),.inl rfl,G,.slice K E rfl⟩
    ·have g:bL (gF e n) j=false:=lq.2 (fun h=>E ((fB _ _).1 h));simp only[g]at h;obtain⟨ab,ad,h⟩:=av.1 h;obtain⟨S,N⟩:=FW h
     grind [iH]
   |grown sz=>
    obtain⟨ae,hB⟩:=cL.1 h;clear h;rw[cC,beq_eq]at ae;obtain⟨ae,da⟩:=ae;subst ae;obtain⟨ab,ad,ce⟩:=av.1 hB;obtain⟨S,dl,aw,hg,N⟩:=aiA f ce;rw[S];rw[iH]at N;by_cases E:e+n≤j
    ·obtain⟨a',F,G,J⟩:=xE f K ad;have c0:o+e*d.size+a8.length≤l.ko:=by
      have h5:o+j*d.size≤l.ko:=U;have h6:=M.length;have h7:(e+n)*d.size≤j*d.size:=ee _ E;rw[eu]at h7;omega
     obtain⟨b2,ar⟩:=ag4 (P:=P) f N K hg G F J M da c0;refine⟨_,_,_,_,A q rfl (tK B p D v s t u E (by rw[mz];exact b2)),.inl rfl,ar,?_⟩;have:=aL.slice (φ:=φ.add H.next ⟨l.c,l.base+o,l.ko-o⟩) (b:=H.next) (o:=0) (len:=e+n) (cap:=.grown d.size) (cap':=j) (aG.tJ _ _ _) E (by
      show 0+j*d.size≤l.ko-o;have h5:o+j*d.size≤l.ko:=U;omega)
     exact this
    grind
   |nx=>cases h
   |least I=>
    have Z:I≤j:=U;obtain⟨cp,h⟩:=cL.1 h;have E:e+n≤I:=(fB _ _).1 cp;obtain⟨W,a4,h⟩:=av.1 h;cases h;obtain⟨F,G⟩:=CL (P:=P) f K M a4;have J:l.base+(gF o (eM e d.size))=l.base+o+e*d.size:=by
     show l.base+(o+e*d.size)=_;omega
    rw[J]at F G;exact⟨_,_,_,φ,A q rfl (tK B p D v s t u (cH E Z) (by rw[mz];exact F)),.inl rfl,G,.slice K (cH E Z) Z⟩
  ·obtain⟨Y,h⟩:=cL.1 h;obtain⟨a0,a1⟩:=FL Y;obtain⟨S,N⟩:=FW h;rw[S];obtain⟨R,L,ac,O,Q⟩:=DF (P:=P) (w:=w) (ty:=ty) B p a5 a7 D v s t (a:=none) (len:=0) (cap:=0) (old:=[]) u aa (fun I=>rfl) aa (by grind);simp only[eJ]at Q L O;have X:=Fz (w:=w) f N (rest:=ac) M (e:=g);refine⟨_,_,_,_,A q rfl Q,.inl rfl,X,.slice (aG.tJ _ _ _) L ?_⟩;show 0+R*d.size≤_;rw[bo,O,←eu,eJ]
   grind
  ·rename_i a;obtain⟨Y,h⟩:=cL.1 h;obtain⟨a0,a1⟩:=FL Y;obtain⟨S,N⟩:=FW h;rw[S];obtain⟨R,L,ac,O,Q⟩:=DF (P:=P) (w:=w) (ty:=ty) B p a5 a7 D v s t (a:=a) (len:=0) (cap:=0) (old:=[]) u aa (fun I=>by cases a<;>simp[Builtin.firstCells,loadCells,loadCellsFrom]) aa (by grind);simp only[eJ]at Q L O;have X:=Fz (w:=w) f N (rest:=ac) M (e:=g);refine⟨_,_,_,_,A q rfl Q,.inl rfl,X,.slice (aG.tJ _ _ _) L ?_⟩;show 0+R*d.size≤_;rw[bo,O,←eu,eJ]
   grind
end
section
variable {P:Program}{φ:aG}{H H':af}{w w':World}{ρ:Operand→Value}{T:cc}{N:eT}{F:Fr}{dst:Option Tmp}{ty:TypeId}{pos:String}{after:Array Edge}{guard:Option (Nat×Bool)}
def j9(w:World)(c:Nat)(o:Obj):World:= { w with heap:=w.heap.setIfInBounds c o }
theorem nA(b:a≠h)(o:Obj):(j9 w a o).heap[h]? =w.heap[h]? :=by
 show(w.heap.setIfInBounds a o)[h]? =_
 grind
theorem GX(h:a<w.heap.size)(o:Obj):(j9 w a o).heap[a]? =some o:=by
 show(w.heap.setIfInBounds a o)[a]? =_;simp[h]
theorem Hx{o o':Obj}(h:w.heap[a]? =some o)(b:F2 o=false):(setObj a o').run P w=.ok () (j9 w a o'):=by
 cases o<;>first|(cases b;done)|simp[setObj,Sem.run,h,j9]
theorem Hy{o:Obj}(h:w.heap[a]? =some o)(g:F2 o=false)(k:∀f e,o≠ .pending f e)(x:Obj):hU w (j9 w a x):=⟨rfl,rfl,rfl,fun{c i} b=>by
 by_cases e:a=c
 ·subst e;obtain⟨⟨v,d⟩,_⟩:=b;unfold World.cell? at d;rw[h]at d;cases o<;>first|(cases g;done)|grind|(simp at d;done)
 grind [qX.of_heap,nA],fun c f t j b=>by
 by_cases e:a=c
 ·subst e;rw[h]at b;cases b;cases g
 grind [nA]⟩
theorem Fy(k:Rel φ H w)(t:φ h=some Q){o o':om}(A:H.get h=.cl o){x:Obj}(hx:um φ (j9 w Q.c x) Q.c o')(aw:∀y,o≠ .ro y:=by intro _ p;cases p):Ext φ H w φ (H.set h (.cl o')) (j9 w Q.c x):=by
 have Z:(j9 w Q.c x).heap.size=w.heap.size:=by simp[j9]
 have G:∀ {b:Nat}{r:Loc},φ b=some r→b≠h→r.c≠Q.c:=by
  intro b r f j s;obtain⟨_,_,_,_,_,D⟩:=(k.inj f t s j).resolve_right (fun n=>by rw[A]at n;cases n.2);rw[A]at D;cases D
 have J:∀ {b:Nat}{u:List V}{g:Nat},(H.set h (.cl o')).get b=.cells u g→b≠h∧H.get b=.cells u g:=by
  intro b u g p;rw[af.aK]at p;split at p
  ·cases p
  ·grind
 have K:∀ {b a l:Nat},(H.set h (.cl o')).get b=.bD a l→H.get b=.bD a l:=by
  intro b a l p;rw[af.aK]at p;split at p
  ·cases p
  ·exact p
 have W:∀ {b g:Nat},(H.set h (.cl o')).fV b g=true→H.fV b g=true:=by
  intro b g p;rcases gB.1 p with e|⟨a,l,e,z⟩
  ·exact gB.2 (.inl e)
  ·exact gB.2 (.inr ⟨a,l,K e,z⟩)
 have T:∀ {l i:Nat},l≠Q.c→(j9 w Q.c x).cell? ⟨l,i,none⟩=w.cell? ⟨l,i,none⟩:=by
  intro l i p;unfold World.cell?;grind [nA]
 have U:∀ {l i:Nat},l≠Q.c→(j9 w Q.c x).frozen? ⟨l,i,none⟩=w.frozen? ⟨l,i,none⟩:=by
  intro l i p;unfold World.frozen?;grind [nA]
 have Y:hU w (j9 w Q.c x):=by
  have C:=(k.cl t A).2;cases o with
  |map O=>obtain⟨P,q,_⟩:=C;exact Hy q rfl aE x
  |iter m a h l d=>obtain⟨lm,_,_,q,_⟩:=C;exact Hy q rfl aE x
  |ro y=>grind
 have X:∀i,¬i<Q.ko:=by
  intro i hi;obtain⟨⟨v,L⟩,_⟩:=k.room t hi;have C:=(k.cl t A).2;unfold World.cell? at L;cases o with
  |map O=>obtain⟨P,q,_⟩:=C;simp[q]at L
  |iter m a h l d=>obtain⟨lm,_,_,q,_⟩:=C;simp[q]at L
  |ro y=>grind
 refine⟨⟨?_,?_,?_,?_,?_,?_,?_,?_,?_,fun e=>(k.fH e).keep (nA (fun S=>(k.fH e).tO t (by rw[A];simp) S) x) (fun b r f j=>by
  have s:=(k.fH e).off b r f j;rw[af.aK,aj (fun E=>by grind)];exact s),fun{a3 ap ar} e=>by
  rw[af.aK]at e;split at e
  ·cases e
  ·exact k.mJ e⟩,aG.le_refl φ,fun f j=>absurd (f.symm.trans j) aE,?_,aF _,?_,aa,Y,fun{b r} f j=>⟨by rw[af.aK,aj (fun e=>by grind)];exact j,nA (fun e=>G f (fun z=>by grind) e.symm) x⟩,fun _ _ e=>.inl e⟩
 ·intro b r u g i v f j s E;obtain⟨F,B⟩:=J j;obtain⟨v',q,I⟩:=k.cell f B (W s) E
  grind
 ·intro b r i f j;by_cases e:b=h
  ·subst e;rw[t]at f;cases f;exact absurd j (X i)
  ·rw[T (G f e),U (G f e)];exact k.room f j
 ·intro b r u g f j;exact k.len f (J j).2
 ·intro b b2 r l2 f j s E;rcases k.inj f j s E with⟨N,D,g,q,I,M⟩|⟨n1,n2⟩
  ·refine .inl ⟨N,D,g,q,?_,?_⟩
   ·rw[af.aK,aj (by grind)];exact I
   ·rw[af.aK,aj (by grind)];exact M
  ·refine .inr ⟨?_,?_⟩
   ·rw[af.aK,aj (by grind)];exact n1
   ·rw[af.aK,aj (by grind)];exact n2
 ·intro b q;obtain⟨F,B⟩:=k.top (b:=b) q;refine⟨F,?_⟩;rw[af.aK,aj (by grind)];exact B
 ·intro b r f;rw[Z];exact k.loc f
 ·intro b u g ac R f j s;exact k.mem (J f).2 j (K s)
 ·intro g ac R f;exact k.mG (K f)
 ·intro b r o1 f j;by_cases e:b=h
  ·subst e;rw[t]at f;cases f;rw[af.aK,ao rfl]at j;cases j;exact⟨(k.cl t A).1,hx⟩
  ·rw[af.aK,aj (fun z=>e z.symm)]at j;obtain⟨F,B⟩:=k.cl f j;exact⟨F,B.mono (aG.le_refl φ) (nA (fun z=>G f e z.symm) x)⟩
 ·intro b q I M;rw[af.aK,aj (by grind)]
 grind [nA]
theorem NJ(k:Rel φ H w){o:om}{x:Obj}(hx:um (φ.add H.next ⟨w.heap.size,0,0⟩) (w.alloc x) w.heap.size o):
 Ext φ H w (φ.add H.next ⟨w.heap.size,0,0⟩) (H.push (.cl o)) (w.alloc x):=by
 have T:φ H.next=none:=(k.top (aF _)).1
 have D:=aG.vC (l:=⟨w.heap.size,0,0⟩) T;have U:(w.alloc x).heap.size=w.heap.size+1:=by show(w.heap.push x).size=_;simp
 have r:∀ {y:Nat}{l:Loc},φ.add H.next ⟨w.heap.size,0,0⟩ y=some l→(y=H.next∧l=⟨w.heap.size,0,0⟩)∨(y≠H.next∧φ y=some l):=by
  intro y l G;rw[aG.add_get]at G;split at G
  ·grind
  ·grind
 have z:∀ {c:Nat},c<w.heap.size→(w.alloc x).heap[c]? =w.heap[c]? :=by
  intro c h;show(w.heap.push x)[c]? =_;simp[Array.getElem?_push,Nat.ne_of_lt h]
 have E:∀ {c i:Nat},c<w.heap.size→(w.alloc x).cell? ⟨c,i,none⟩=w.cell? ⟨c,i,none⟩:=by
  intro c i h;unfold World.cell?;rw[z h]
 have P:∀ {c i:Nat},c<w.heap.size→(w.alloc x).frozen? ⟨c,i,none⟩=w.frozen? ⟨c,i,none⟩:=by
  intro c i h;unfold World.frozen?;rw[z h]
 have B:∀ {b:Nat}{p:List V}{g:Nat},(H.push (.cl o)).get b=.cells p g→H.get b=.cells p g:=by
  intro b p g h;rw[af.aY]at h;split at h
  ·cases h
  ·exact h
 have C:∀ {b a c:Nat},(H.push (.cl o)).get b=.bD a c→H.get b=.bD a c:=by
  intro b a c h;rw[af.aY]at h;split at h
  ·cases h
  ·exact h
 have R:∀ {b g:Nat},(H.push (.cl o)).fV b g=true→H.fV b g=true:=by
  intro b g h;rcases gB.1 h with e|⟨a,c,e,I⟩
  ·exact gB.2 (.inl e)
  ·exact gB.2 (.inr ⟨a,c,C e,I⟩)
 have F:∀ {b:Nat}{n:Loc}{p:List V}{g:Nat},φ.add H.next ⟨w.heap.size,0,0⟩ b=some n→(H.push (.cl o)).get b=.cells p g→φ b=some n:=by
  intro b n p g d j;rcases r d with⟨rfl,rfl⟩|⟨_,f⟩
  ·simp_all [af.aY,ao]
  ·exact f
 have Q:∀ {c:Nat}{y:Obj},φ.im c=some y→p4 (φ.add H.next ⟨w.heap.size,0,0⟩) (H.push (.cl o)) (w.alloc x) c y:=by
  intro c y e;have hi:=k.fH e;have S:=hi.lt;refine hi.keep (z S) ?_;intro b n d j;rcases r d with⟨_,rfl⟩|⟨m,q⟩
  ·grind
  ·rw[af.aY,aj (fun e=>m e.symm)];exact hi.off _ _ q j
 refine⟨⟨?_,?_,?_,?_,?_,?_,?_,?_,?_,Q,fun{ae Z M} e=>by
  show M<H.next+1
  rw[af.aY]at e;split at e
  ·cases e
  ·have:=k.mJ e;omega⟩,D,?_,?_,by show H.next≤H.next+1;omega,?_,aa,hU.alloc w x,fun{b n} d j=>⟨by rw[af.aY,aj (fun e=>by grind)];exact j,z (k.loc d)⟩,fun _ _ e=>.inl e⟩
 ·intro b n p g i v d j t A;have q:=F d j;obtain⟨X,m,s⟩:=k.cell q (B j) (R t) A;exact⟨X,by rw[E (k.loc q)];exact m,s.mono D⟩
 ·intro b n i d j;rcases r d with⟨rfl,rfl⟩|⟨_,f⟩
  ·grind
  ·rw[E (k.loc f),P (k.loc f)];exact k.room f j
 ·intro b n p g d j;exact k.len (F d j) (B j)
 ·intro b Y n l2 d j t A;rcases r d with⟨m,N⟩|⟨m,q⟩
  ·rcases r j with⟨s,O⟩|⟨s,u⟩
   ·omega
   ·have:=k.loc u;grind
  ·rcases r j with⟨s,O⟩|⟨s,u⟩
   ·have:=k.loc q;grind
   ·rw[af.aY,aj (fun e=>m e.symm),af.aY,aj (fun e=>s e.symm)];exact k.inj q u t A
 ·intro b m;have N:H.next+1≤b:=m
  obtain⟨q,u⟩:=k.top (b:=b) aa;refine⟨?_,?_⟩
  ·simp_all [aG.add_get,aj];omega
  ·rw[af.aY,aj aa];exact u
 ·intro b n d;rw[U];rcases r d with⟨rfl,rfl⟩|⟨_,f⟩
  ·simp
  ·have:=k.loc f;omega
 ·intro b p g W J d j t;exact k.mem (B d) j (C t)
 ·intro g W J d;exact k.mG (C d)
 ·intro b n o1 d j;rcases r d with⟨rfl,rfl⟩|⟨m,f⟩
  ·rw[af.aY,ao rfl]at j
   grind
  ·rw[af.aY,aj (fun e=>m e.symm)]at j;obtain⟨K,L⟩:=k.cl f j;exact⟨K,L.mono D (z (k.loc f))⟩
 ·grind
 ·intro b m _ _;rw[af.aY,aj aa]
 grind
theorem I1(x:Obj):(w.alloc x).heap[w.heap.size]? =some x:=by
 show(w.heap.push x)[w.heap.size]? =_;simp
theorem amW(a:Rel φ H w){r:V×af}(h:Gl [] H=some r):tr P φ H w ρ ⟨dst,.makeMap g none,ty,pos,after,guard⟩ r.1 r.2:=by
 cases h;refine⟨.value (.map (some w.heap.size)),_,w.alloc (.map #[] 0),_,?_,.inl rfl,NJ a ⟨[],I1 _,by simp[q6]⟩,.map (aG.tJ _ _ _)⟩;simp[execOp,Instr.makeMap]
theorem Py(n:Nat):a∈upto n↔a<n:=by
 induction n with
 |zero=>show a∈[]↔_;simp
 |succ n b=>
  show a∈n::upto n↔_
  grind
variable{r:V}
theorem aoW(hT:cT P T)(b:Rel φ H w){s e:TypeId}(o:T.bt g=some (.map s e))(f:aL φ r (ρ k)){a:V×af}(h:zP [r] H=some a):tr P φ H w ρ ⟨dst,.range g k,ty,pos,after,guard⟩ a.1 a.2:=by
 generalize q:ρ k=x at f
 cases f<;>first|(cases h;done)|skip
 rename_i t l j;obtain⟨d,n,h⟩:=av.1 (show an (H.jk t) _=some a from h);cases h;obtain⟨u,m,v⟩:=zp b j n;have p:=uz (P:=P) m rfl;refine⟨.value (.pointer (some ⟨w.heap.size,0,none⟩)),_,w.alloc (.mapIter (some l.c) d.length #[] d.length),_,?_,.inl rfl,NJ b ⟨l,[],aG.vC (b.top (aF _)).1 _ _ j,?_,fun e=>absurd rfl e,rfl,fun i hi _=>(Py _).2 hi,fun i hi=>⟨(Py _).1 hi,aE⟩⟩,?_⟩
 ·simp only[execOp,Instr.range,q,eg,run_underlying (hT.bt o),eH,p,fZ,run_newObj];rfl
 ·rw[I1,gV]
 ·have:=aL.ptr (o:=0) (aG.tJ φ H.next ⟨w.heap.size,0,0⟩)
  simpa using this
theorem Pt(l:List f)(x:f):∀n,zj l x n=l.set n x:=by
 induction l with
 |nil=>intro n;rfl
 |cons a l b=>intro n;cases n with
  |zero=>rfl
  |succ n=>exact congrArg (a:: ·) (b n)
theorem Uj{a:V}(h:vc C a r=some true):a=r∧(match a with|.int _ _=>True|_=>False):=by
 cases C<;>first|(cases h;done)|skip
 cases a<;>first|(cases h;done)|skip
 cases r<;>first|(cases h;done)|skip
 rename_i k x b y;obtain⟨c,h⟩:=cL.1 (show aQ (g8 k b) (some (lX x y))=some true from h);have d:lX x y=true:=Option.some.inj h;simp_all [vA,qv,trivial]
theorem Ui{a:V}(h:vc C a r=some true){b:Value}(d:aL φ a x)(e:aL φ r b)(n:Nat):x=b∧Instr.sameBits n b x=true:=by
 obtain⟨rfl,c⟩:=Uj h;cases d<;>first|(exact c.elim)|skip
 all_goals cases e<;>exact⟨rfl,by cases n<;>simp[Instr.sameBits,beq_toListBytes]⟩
theorem Ul:∀ {ds:List TypeDesc}{c e:List V},m9 ds c e=some true→∀ {f g:List Value},bp φ c f→bp φ e g→∀n,f=g∧(g.zip f).all (fun(x,y)=>Instr.sameBits n x y)=true:=by
 intro ds;induction ds with
 |nil=>
  intro c e h f g i j n;cases c<;>cases e<;>first|(cases h;done)|skip
  cases i;cases j;exact⟨rfl,rfl⟩
 |cons d ds z=>
  intro c e h f g i j n;obtain⟨x,c,y,e,a,b,rfl,rfl,k,l,m⟩:=D7 h;have o:a=true∧b=true:=by simpa using m.symm
  obtain⟨rfl,rfl⟩:=o;obtain⟨A,B,rfl,t,u⟩:=i.cons_inv;obtain⟨C,D,rfl,v,w⟩:=j.cons_inv;obtain⟨p,q⟩:=Ui k t v n;obtain⟨r,s⟩:=z l u w n;exact⟨by rw[p,r],by simp[q];simpa using s⟩
variable{z:V→V→Option Bool}
theorem al5(j:rG T g=some z){a:V}(h:z a r=some true){b:Value}(f:aL φ a x)(i:aL φ r b):Instr.sameBits 10000 b x=true:=by
 obtain⟨_,_,ds,_,_,rfl⟩:=zd j;obtain⟨o,y,rfl,rfl,e⟩:=Ga h;obtain⟨m,rfl,k⟩:=f.yH;obtain⟨n,rfl,l⟩:=i.yH;obtain⟨c,d⟩:=Ul e k l 9999;have hl:m.length=n.length:=by rw[c]
 simp[Instr.sameBits,hl];simpa using d
theorem am4:∀ {a:List (V×V)}{i j:Nat}{v:V},pB z r a i=some (some (j,v))→∃c,i≤j∧a[j-i]? =some (c,v)∧z r c=some true:=by
 intro a;induction a with
 |nil=>intro i j v h;cases h
 |cons e a g=>
  intro i j v h;obtain⟨b,f,⟨rfl,d⟩|⟨rfl,d⟩⟩:=PA h
  ·grind
  grind
theorem arJ(hT:cT P T)(p:Rel φ H w){Q e:TypeId}(X:T.bt g=some (.map Q e))(C:rG T Q=some z){k v:V}{c f:Value}(hm:aL φ r x)(n:aL φ k c)(hv:aL φ v f){s:V×af}(h:yl z [r,k,v] H=some s):
 ∃w',(Instr.mapUpdate g x c f).run P w=.ok () w'∧Ext φ H w φ s.2 w'∧s.1=V.undef:=by
 cases hm<;>first|(cases h;done)|skip
 rename_i a6 l o;obtain⟨b,U,h⟩:=av.1 (show an (z k k) _=some s from h);obtain⟨a,I,h⟩:=av.1 h;obtain⟨q,J,h⟩:=av.1 h;have N:=Gm I;obtain⟨d,A,m⟩:=zp p o I;obtain⟨R,g3,B⟩:=N2 hT C n m J w;have M:=uz (P:=P) A rfl;have L:=Kp hT C n U false w;have a3:=p.loc o;have O:=run_underlying (hT.bt X) w;cases q with
 |none=>
  cases h;cases R with
  |some t=>exact B.elim
  |none=>
   have D:=Hx (P:=P) (o':=.map ((⟨d⟩:Array MapEntry).push { key:=c,val:=f,born:=a.length }) (a.length+1)) A rfl;refine⟨_,?_,Fy p o N (o':=.map (cX a [(k,v)])) (x:=.map ((⟨d⟩:Array MapEntry).push { key:=c,val:=f,born:=a.length }) (a.length+1)) ?_,rfl⟩
   ·simp only[Instr.mapUpdate,eg,O,eH,M,L,g3,D]
   ·refine⟨d++[{ key:=c,val:=f,born:=a.length }],?_,?_⟩
    ·grind [GX,iH]
    ·rw[iH];refine⟨by simp[m.1],?_⟩;intro i E F hi;rcases oe i a.length with ac|hge
     ·rw[p8 ac]at hi;obtain⟨t,y,G⟩:=m.2 i E F hi
      grind
     ·rw[tv hge]at hi;have Y:i=a.length:=by
       have:=(gZ.1 hi).1;simp at this;omega
      subst Y;simp at hi;obtain⟨rfl,rfl⟩:=hi;refine⟨{ key:=c,val:=f,born:=a.length },?_,n,hv,rfl⟩;rw[tv (by rw[m.1];exact aF _),m.1];simp
 |some t=>
  obtain⟨j,u⟩:=t;cases h;cases R with
  |none=>exact B.elim
  |some x'=>
   obtain⟨j',u'⟩:=x';obtain⟨rfl,a4⟩:=B;obtain⟨k0,_,K,S⟩:=am4 J;rw[Nat.sub_zero]at K;obtain⟨x0,y,G,f3,f4⟩:=m.2 j k0 u K;have W:=al5 C S n G;have a2:j<d.length:=(gZ.1 y).1;have D:=Hx (P:=P) (o':=.map ((⟨d⟩:Array MapEntry).modify j fun e=> { e with key:=c,val:=f }) a.length) A rfl;refine⟨_,?_,Fy p o N (o':=.map (zj a (k,v) j)) (x:=.map ((⟨d⟩:Array MapEntry).modify j fun e=> { e with key:=c,val:=f }) a.length) ?_,rfl⟩
   ·have ab:(Instr.keyThatStays ((((⟨d⟩:Array MapEntry)[j]?).map (·.key)).getD c) c).run P w=.ok c w:=by
     have:(⟨d⟩:Array MapEntry)[j]? =some x0:=by simpa using y
     simp[Instr.keyThatStays,this,W]
    simp only[Instr.mapUpdate,eg,O,eH,M,L,g3,ab,D]
   ·refine⟨d.modify j fun e=> { e with key:=c,val:=f },?_,?_⟩
    ·grind [GX,Pt]
    ·rw[Pt];refine⟨by simp[m.1],?_⟩;intro i E F hi;rw[r7]at hi;rw[List.getElem?_modify];by_cases Z:j=i
     ·grind
     ·rw[aj Z]at hi;obtain⟨t,e1,e2⟩:=m.2 i E F hi
      grind
end
section
variable {P:Program}{φ:aG}{H H':af}{w w':World}{ρ:Operand→Value}{T:cc}{N:eT}{F:Fr}{dst:Option Tmp}{ty:TypeId}{pos:String}{after:Array Edge}{guard:Option (Nat×Bool)}
variable{y:Array TypeId}{r:V}
theorem US(hT:cT P T)(f:Rel φ H w){st:TypeId}(W:T.bt st=some (.slice g))(L:iV T g=some h)(K:y[0]? =some st){c x:Operand}{v:V}(M:aL φ r (ρ c))(i:aL φ v (ρ x)){n:V×af}(B:ow h [r,v] H=some n):
 tr P φ H w ρ ⟨dst,.call ⟨.builtin .copy,#[c,x],y⟩,ty,pos,after,guard⟩ n.1 n.2:=by
 have N:=run_underlying (hT.bt W)
 have F:∀ {a:Option Addr}{u D m k:Nat}{j:List Value}{w':World},ρ c=.slice a u D→(Builtin.lenOf (ρ x)).run P w=.ok m w→Nat.min m u=k→(Builtin.firstCells h k (ρ x)).run P w=.ok ⟨j⟩ w→
  (match a with|some a=>storeCells a j|none=>pure ():Sem Unit).run P w=.ok () w'→
  (execOp ρ ⟨dst,.call ⟨.builtin .copy,#[c,x],y⟩,ty,pos,after,guard⟩).run P w=.ok (.value (.int .i64 k)) w':=by
  intro a u D m k j w' z A I J E;simp only[execOp,resolve,invoke,builtin,Builtin.copy_];have Z:(#[ρ c,ρ x]:Array Value)[0]? =some (ρ c):=rfl;have g1:(#[ρ c,ρ x]:Array Value)[1]? =some (ρ x):=rfl;have ac:(#[c,x]:Array Operand).map ρ=#[ρ c,ρ x]:=aE;cases a with
  |none=>cases E;simp[K,z,N,A,I,l_ hT L,J,goInt]
  |some a=>simp at E;simp[K,z,N,A,I,l_ hT L,J,goInt,E]
 generalize G:ρ c=al at M
 cases M<;>first|(cases B;done)|skip
 ·rename_i b o u D Y l S ad ae;obtain⟨m,s,p⟩:=av.1 (show an (kn v) _=some n from B);obtain⟨O,e,q⟩:=av.1 p;obtain⟨X,U,R⟩:=av.1 q;cases R;obtain⟨j,C,t⟩:=Bu (P:=P) f i e;obtain⟨z,A⟩:=CL (P:=P) f S C U;have d:=t 0;simp only[cG]at d;refine⟨_,_,_,φ,F G (BW i s) (k:=ep m u) (by rw[B_]) d z,.inl rfl,A,.int _ _⟩
 ·obtain⟨m,s,p⟩:=av.1 (show an (kn v) _=some n from B);obtain⟨O,e,q⟩:=av.1 p;cases q;obtain⟨j,C,t⟩:=Bu (P:=P) f i e;have d:=t 0;simp only[cG]at d;exact⟨_,_,_,φ,F G (BW i s) (k:=0) aE d rfl,.inl rfl,Ext.refl f,.int _ _⟩
 ·obtain⟨m,s,p⟩:=av.1 (show an (kn v) _=some n from B);obtain⟨O,e,q⟩:=av.1 p;cases q;have Q:=N4 e;subst Q;obtain⟨j,C,t⟩:=Bu (P:=P) f i e;cases C;have d:=t 0;simp only[cG]at d;exact⟨_,_,_,φ,F G (BW i s) (k:=0) aE d rfl,.inl rfl,Ext.refl f,.int _ _⟩
theorem agD(hT:cT P T)(G:Rel φ H w)(o:Oper){g:List V→af→Option (V×af)}(j:cop N T o.op=.gK t g)(D:jH φ F ρ o.op.operands.toList){r:V×af}(h:g (vals t F) H=some r):
 tr P φ H w ρ o r.1 r.2:=by
 obtain⟨dst,aw,ty,pos,after,guard⟩:=o;simp only at j D;cases aw<;>simp only[cop,reduceCtorEq]at j<;>simp only[Op.operands]at D
 case assign x=>
  obtain⟨f,C,j⟩:=av.1 (dZ j aE);cases j;cases h;exact Tq G (pG D C)
 case store M a v=>
  obtain⟨I,C,j⟩:=av.1 (dZ j aE);obtain⟨n,X,j⟩:=av.1 j;cases j;obtain⟨x,y,B,A,u⟩:=yj D C;rw[B]at h;exact aqQ hT G X A u h
 case makeMap M q=>
  cases q<;>cases j;exact amW G h
 case mapUpdate M m k v=>
  obtain⟨I,Q,j⟩:=av.1 (dZ j aE);obtain⟨d,J,j⟩:=av.1 j;cases d<;>simp only[reduceCtorEq]at j;obtain⟨f,C,j⟩:=av.1 j;cases j;obtain⟨a,b,c,B,A,u,K⟩:=RW D Q;rw[B]at h;obtain⟨w',Y,Z,g3⟩:=arJ hT G J C A u K h;exact⟨.skip,undef,w',φ,by simp[execOp,Y],.inr ⟨rfl,rfl⟩,Z,by rw[g3];exact .aA .nil⟩
 case range M x=>
  obtain⟨f,C,j⟩:=av.1 (dZ j aE);obtain⟨d,J,j⟩:=av.1 j;cases d<;>simp only[reduceCtorEq]at j<;>cases j;exact aoW hT G J (pG D C) h
 case call c=>
  obtain⟨callee,O,ts⟩:=c;have E:=dZ j aE;clear j;have ac:jH φ F ρ O.toList:=fun y hy=>D y (by simp[Call.operands];exact .inr (by simpa using hy))
  cases callee with
  |value x=>cases x<;>simp only[]at E<;>exact dead E
  |invoke x m=>cases E
  |builtin bi=>
   obtain⟨I,Q,E⟩:=av.1 E;have p:=dZ (Option.some.inj E) aE;obtain⟨M,ht,p⟩:=av.1 p;obtain⟨d,J,p⟩:=av.1 p;have ae:=lk ht;have B:=oE Q ac
   have U:∀ {q:List V→af→Option (V×af)},(∀ {a b c},q (a::b::c) H=some r→c=[])→(∀ {a},q [a] H≠some r)→q [] H≠some r→q (vals I F) H=some r→
    ∃x y a b,O=#[x,y]∧vals I F=[a,b]∧aL φ a (ρ x)∧aL φ b (ρ y):=by
    intro q a2 q1 q0 s;generalize hl:vals I F=l at B s
    obtain⟨m⟩:=O
    match l,s with
    |[],s=>exact absurd s q0
    |[a],s=>exact absurd s q1
    |a::b::c,s=>
     have:=a2 s;subst this
     match m with
     |[]=>cases B
     |[_]=>cases B with|cons _ u=>cases u
     |[x,y]=>cases B with|cons A u=>cases u with|cons K R=>exact⟨x,y,a,b,rfl,rfl,A,K⟩
     |_::_::_::_=>cases B with|cons A u=>cases u with|cons K R=>cases R
   cases bi<;>simp only[reduceCtorEq]at p
   case append=>
    split at p
    ·rename_i e ab;obtain⟨i,hi,p⟩:=av.1 p;obtain⟨z,L,p⟩:=av.1 p;obtain⟨zs,ar,p⟩:=av.1 p;obtain⟨W,p⟩:=cL.1 p;cases z<;>simp only[reduceCtorEq,Option.some.injEq,bQ.gK.injEq]at p;obtain⟨rfl,rfl⟩:=p;obtain⟨xt,am,L⟩:=av.1 L;obtain⟨a4,al,L⟩:=av.1 L;obtain⟨x,y,a,b,rfl,S,A,u⟩:=U (q:=fA i.size i.bytes) (fun{a b c} s=>by cases c with|nil=>rfl|cons=>cases s) (fun s=>by cases s) (fun s=>by cases s) h;rw[S]at h;rw[beq_eq,gV]at W;refine Tm hT G J hi ar W (hT.bt al) (fun k e=>?_) ae (lk am) A u h
     grind
    ·cases p
   case copy=>
    split at p
    ·rename_i e ab;obtain⟨n,X,p⟩:=av.1 p;cases p;obtain⟨x,y,a,b,rfl,S,A,u⟩:=U (q:=ow n) (fun{a b c} s=>by cases c with|nil=>rfl|cons=>cases a<;>cases s) (fun{a} s=>by cases a<;>cases s) (fun s=>by cases s) h
     grind [US]
    ·cases p
   all_goals exact dead p
 case makeFunc f _ _=>
  cases f<;>simp only[reduceCtorEq]at j;exact dead j
 all_goals exact dead j
end
section
variable {P:Program}{φ:aG}{H H':af}{w:World}{ρ:Operand→Value}{T:cc}{N:eT}{F F':Fr}{G:Nat}
variable{A:FuncId}
theorem Re{a:Func}{c:Code}(e:P.funcs[A]? =some a)(d:a.body=some c)(f:(a.name== "runtime.NumGoroutine")=false)(b:Array Value)(w:World):(callFunc A b).run P w=.ok (.enter A b) w:=by
 have g:¬a.name= "runtime.NumGoroutine":=by simpa using f
 simp[callFunc,e,g,d]
def IB(P:Program)(f:FuncId):Prop:=∃a c,P.funcs[f]? =some a∧a.body=some c∧(a.name== "runtime.NumGoroutine")=false
def Iz(P:Program)(φ:aG)(w:World)(s:Sem Next)(b:List V):oU→Prop
 |.fn f=>IB P f→∃a,s.run P w=.ok (.enter f ⟨a⟩) w∧bp φ b a
theorem T7(Q:∀f,ρ (.func f)=.func (.func f) #[] #[]) (o:Oper) {g:List V→Option (oU×List V)} (d:cop N T o.op=.call t g) (j:jH φ F ρ o.op.operands.toList) {n:oU} (h:g (vals t F)=some (n,b)):
 Iz P φ w (execOp ρ o) b n:=by
 obtain⟨E,R,W,S,after,guard⟩:=o;simp only at d j;cases R<;>simp only[cop,reduceCtorEq]at d<;>simp only[Op.operands]at j
 case call c=>
  obtain⟨callee,e,U⟩:=c;have a:=dZ d aE;clear d;have M:jH φ F ρ e.toList:=fun y B=>j y (by simp[Call.operands];grind)
  have A:e.map ρ=⟨e.toList.map ρ⟩:=by apply uM;simp
  cases callee with
  |value x=>
   have Z:∀ {i:List (Fr→V)},iK (x::e.toList)=some i→sx (vals i F)=some (n,b)→Iz P φ w (execOp ρ ⟨E,.call ⟨.value x,e,U⟩,W,S,after,guard⟩) b n:=by
    intro i k q;have u:=oE k (φ:=φ) (F:=F) (ρ:=ρ) (fun y B=>j y (by simp[Call.operands];simpa using B));generalize vals i F=l at u q
    rw[List.map_cons]at u;cases u with
    |cons v J=>
     generalize O:ρ x=x' at v
     cases v<;>first|(cases q;done)|skip
     rename_i G as bs C D K L;cases q;rintro⟨H,c,r,p,s⟩;refine⟨C++(e.toList.map ρ++D),?_,?_⟩
     ·simp only[execOp,resolve,O,Deferred.ofValue,invoke];simp only[eg,fZ,eH];rw[Re r p s];congr 2;apply uM;simp[A]
     ·rw[iH,iH];exact K.append (J.append L)
   cases x<;>simp only[]at a
   case func G=>
    obtain⟨I,Y,a⟩:=av.1 a;obtain⟨i,k,a⟩:=av.1 a;cases z:I.body with
    |none=>
     rw[z]at a;exact dead a
    |some X=>
     rw[z]at a;cases a;cases h;rintro⟨H,c,r,p,s⟩;refine⟨e.toList.map ρ,?_,oE k M⟩;simp only[execOp,resolve,Q,Deferred.ofValue,invoke];simp only[eg,fZ,eH];rw[Re r p s];congr 2;apply uM;simp[A]
   all_goals
    obtain⟨i,k,a⟩:=av.1 a;simp_all
  |invoke x m=>cases a
  |builtin bi=>exact dead a
 case makeFunc f _ _=>
  cases f<;>simp only[reduceCtorEq]at d;exact dead d
 all_goals exact dead d
end
theorem pA{c:Type}{f:c→c→Bool}(e:∀a b,f a b=true→a=b):∀l m,e8 f l m=true→l=m:=by
 intro l;induction l with
 |nil=>intro m h;cases m with
  |nil=>rfl
  |cons=>cases h
 |cons a l g=>intro m h;cases m with
  |nil=>cases h
  |cons b m=>
   have d:and (f a b) (e8 f l m)=true:=h
   grind
theorem T0{a b:Cap}(h:DZ a b=true):a=b:=by
 cases a<;>cases b<;>first|(cases h;done)|rfl|(rw[(beq_eq _ _).1 h])
theorem Ig:∀n a b,rX n a b=true→a=b:=by
 intro n;induction n with
 |zero=>intro a b h;cases h
 |succ n d=>
  intro a b h;cases a<;>cases b<;>first|(cases h;done)|skip
  ·rename_i x y;cases x<;>cases y<;>first|rfl|cases h
  ·rename_i k x l y;have c:and (g8 k l) (lX x y)=true:=h;simp_all [cC,vA,qv,decide_eq_true_eq]
  ·rename_i x y;rw[pA (f:=kP) (fun a b h=>by grind [H_]) x y h]
  ·rename_i x y z t;have c:and (bn x z) (bn y t)=true:=h;simp_all
  ·rfl
  ·rename_i p q r s x y z t;have c:and (and (bn p x) (bn q y)) (and (bn r z) (DZ s t))=true:=h;rw[cC,cC,cC,beq_eq,beq_eq,beq_eq]at c
   grind [T0]
  ·rfl
  ·rfl
  ·rename_i x y;rw[(beq_eq _ _).1 h]
  ·rfl
  ·rename_i f x y g z t;have c:and (bn f g) (and (e8 (rX n) x z) (e8 (rX n) y t))=true:=h;rw[cC,cC,beq_eq]at c
   grind [pA]
  ·rfl
  ·rfl
  ·rename_i x y;rw[pA d _ _ h]
  ·rename_i x y;rw[pA d _ _ h]
  ·rename_i x y z t;have c:and (bn x z) (e8 (rX n) y t)=true:=h;rw[cC,beq_eq]at c
   grind [pA]
  ·rename_i x y z t;have c:and (e8 (rX n) x z) (bn y t)=true:=h;rw[cC,beq_eq]at c
   grind [pA]
  ·rfl
def Post(φ:aG)(H:af)(w:World)(Q:V→af→Prop)(e:Ending)(c:World):Prop:=∃v a H' b,e=.returned a∧Ext φ H w b H' c∧aL b v a∧Q v H'
def e4(P:Program)(G:Nat)(t:oU)(b:List V)(H:af)(Q:V→af→Prop):Prop:=match t with
 |.fn f=>IB P f∧∀(φ:aG) (w:World) (a:List Value),Rel φ H w→lu G φ→bp φ b a→Calls P f ⟨a⟩ w (Post φ H w Q)
theorem Post.mono{Q b:V→af→Prop}(h:∀v H',Q v H'→b v H'){e:Ending}{d:World}(k:Post p c q Q e d):Post p c q b e d:=
 let⟨v,l,H',m,f,g,i,j⟩:=k;⟨v,l,H',m,f,g,i,h _ _ j⟩
theorem e4.mono{P:Program}{t:oU}{Q d:V→af→Prop}(h:∀v H',Q v H'→d v H')(e:e4 P a t b c Q):e4 P a t b c d:=by
 cases t with
 |fn f=>exact⟨e.1,fun _ _ _ g i j=>(e.2 _ _ _ g i j).mono fun _ _=>Post.mono h⟩
def oJ(i:Nat)(l:List Nat):List Nat:=kL (fun j=> !(bn j i)) l
def As(v:V)(H:af)(Q:V→af→Prop):Prop:=∃b m since left c d a,v=.ptr b 0∧H.get b=.cl (.iter m since left c d)∧H.get m=.cl (.map a)∧
 (∀i k x,a[i]? =some (k,x)→(i∈left∨since≤i)→Q (.aA [.bool true,k,x]) (H.set b (.cl (.iter m since (oJ i left) (some i) a.length))))∧
 ((∀i∈left,a.length≤i)→Q (.aA [.bool false]) H)
def jw(P:Program)(G:Nat)(s:Step)(F:Fr)(H:af)(K:Fr→af→Prop):Prop:=
 (s.want F=some false∧K (put F s.dst V.undef) H)∨(s.want F=some true∧match s.cop with
   |.call d g=>∃t c,g (vals d F)=some (t,c)∧e4 P G t c H fun v a=>K (put F s.dst v) a
   |.mO x=>As (x F) H fun v a=>K (put F s.dst v) a
   |_=>∃b a,exec qH s F H=some (b,a)∧K b a)
def wm(s:Step)(F:Fr)(H:af):Prop:=s.want F=some false∨(s.want F=some true∧∀a g,s.cop=.rd a g→∃v,g (vals a F) H=some v∧∀t,s.dst=some t→aN.lW V.undef (path t) F=v)
theorem S7{s:Step}(h:again s m c=true):wm s m c:=by
 unfold again at h;cases a:s.want m with
 |none=>rw[a]at h;cases h
 |some j=>
  cases j with
  |false=>exact .inl a
  |true=>
   refine .inr ⟨a,?_⟩;intro b g e;rw[a]at h
   have d:(match s.cop with
    |.rd b g=>Option.casesOn (motive:=fun _=>Bool) (g (vals b m) c) false (fun v=>Option.casesOn (motive:=fun _=>Bool) s.dst true (fun t=>rX 20 v (aN.lW V.undef (path t) m)))
    |_=>true)=true:=h
   rw[e]at d;cases f:g (vals b m) c with
   |none=>simp_all
   |some v=>
    refine⟨v,rfl,?_⟩;intro t i;simp only[f,i]at d
    grind [Ig]
def gI(P:Program)(G:Nat):List c6→Fr→af→(Fr→af→Prop)→Prop
 |[],F,H,Q=>Q F H
 |.ex s::l,F,H,Q=>jw P G s F H fun a b=>gI P G l a b Q
 |.re s::l,F,H,Q=>wm s F H∧gI P G l F H Q
variable{e:Fr→af→Prop}
theorem jw.mono{P:Program}{s:Step}{q:Fr→af→Prop}(f:∀m c,e m c→q m c)(p:jw P h s m c e):jw P h s m c q:=by
 rcases p with⟨n,d⟩|⟨n,d⟩
 ·exact .inl ⟨n,f _ _ d⟩
 ·refine .inr ⟨n,?_⟩;cases r:s.cop with
  |call o g=>rw[r]at d;obtain⟨t,u,j,l⟩:=d;exact⟨t,u,j,l.mono fun _ _=>f _ _⟩
  |mO x=>
   rw[r]at d;obtain⟨b,B,since,left,v,A,w,j,l,g3,y,z⟩:=d;exact⟨b,B,since,left,v,A,w,j,l,g3,fun i k x a b=>f _ _ (y i k x a b),fun a=>f _ _ (z a)⟩
  |bad=>grind
  |pu o g=>grind
  |rd o g=>grind
  |gK o g=>grind
theorem gI.mono{P:Program}{Q:Fr→af→Prop}(h:∀F H,Q F H→e F H):∀ {l:List c6}{F:Fr}{H:af},gI P a l F H Q→gI P a l F H e:=by
 intro l;induction l with
 |nil=>exact fun p=>h _ _ p
 |cons i l b=>
  intro F H p;cases i with
  |ex s=>exact jw.mono (fun _ _=>b) p
  |re s=>exact⟨p.1,b p.2⟩
theorem gI.app{P:Program}:∀ {l c:List c6}{F:Fr}{H:af},gI P a (l++c) F H e↔gI P a l F H fun d f=>gI P a c d f e:=by
 intro l;induction l with
 |nil=>intro c F H;rfl
 |cons i l b=>
  intro c F H;cases i with
  |ex s=>exact⟨jw.mono fun _ _=>b.1,jw.mono fun _ _=>b.2⟩
  |re s=>exact⟨fun p=>⟨p.1,b.1 p.2⟩,fun p=>⟨p.1,b.2 p.2⟩⟩
def fw(ro:Option Nat):Fence:= { Fence.wide with round:=ro }
section
variable {P:Program}{φ:aG}{H H':af}{w:World}{T:cc}{N:eT}{F F':Fr}{G:Nat}{cf:jS}{ro:Option Nat}{nn:Nat}
theorem uc{b:f→Bool}{l:List f}:l5 b l=true↔∀x∈l,b x=true:=by
 induction l with
 |nil=>simp[l5]
 |cons a l c=>
  have e:l5 b (a::l)=and (b a) (l5 b l):=rfl
  grind
theorem GI(h:uk G a k=true):P9 G a k:=by
 cases k with
 |tmp t=>exact(fB _ _).1 h
 |global g=>exact(fB _ _).1 h
 |_=>trivial
variable{Y:Oper}
theorem an7{a:Act}(h:ny G a.tmps.size Y=true)(b:jI φ F a.tmps)(d:lu G φ):jH φ F a.eval Y.op.operands.toList:=by
 unfold ny at h;rw[cC]at h;intro x e f c;exact P_ b d (GI (uc.1 h.2 x e)) c
theorem Ss{d:Array Oper}{a:Act}(o:Oper)(i:mh d.toList o.guard F=some n)(v:∀j b t,o.guard=some (j,b)→tN d.toList j=some t→t<a.tmps.size∧aL φ (F.get V.undef t) (a.tmps.getD t undef)):
 Region.wanted o (yielded d a.tmps)=n:=by
 unfold mh at i;unfold Region.wanted;cases m:o.guard with
 |none=>
  grind
 |some s=>
  obtain⟨j,b⟩:=s;rw[m]at i
  have c:Option.casesOn (motive:=fun _=>Fr→Option Bool) (tN d.toList j) (fun _=>some false)
   (fun t F=>pg b (aN.lW V.undef (path t) F)) F=some n:=i
  clear i;have g:=v j b;simp only[tN,gO]at c g;unfold yielded;cases f:d[j]? with
  |none=>
   have:d.toList[j]? =none:=by simpa using f
   rw[this]at c;cases c;simp[f]
  |some q=>
   have w:d.toList[j]? =some q:=by simpa using f
   rw[w]at c g;simp only[an]at c g;cases l:q.dst with
   |none=>
    simp_all
   |some t=>
    rw[l]at c;obtain⟨p,h⟩:=g t m l;have e:a.tmps.getD t undef=a.tmps[t]:=by simp[p]
    have r:a.tmps[t]? =some a.tmps[t]:=by simp[p]
    rw[e]at h;simp only[f,Option.bind_some,l,r];have k:pg b (F.get V.undef t)=some n:=c;generalize F.get V.undef t=u at h k
    generalize a.tmps[t]=y at h
    cases h<;>first|(cases k;done)|(cases k;rfl)|skip
    rename_i x;cases k;cases x<;>cases b<;>rfl
theorem arZ{c:Array Oper}{a:Act}(h:∀o∈c.toList,GC a.tmps.size o.dst=true)(k:jI φ F a.tmps)(o:Oper)(l:mh c.toList o.guard F=some n):Region.wanted o (yielded c a.tmps)=n:=by
 refine Ss (φ:=φ) o l (fun j b t _ g=>?_);obtain⟨m,d,i⟩:=av.1 (show an (cO c.toList j) (fun o=>o.dst)=some t from g);rw[gO]at d;have e:=h m (eN d);rw[i]at e;have f:t<a.tmps.size:=(fB _ _).1 e;exact⟨f,k t f⟩
theorem zM(a:Act)(d:Option Nat)(v:Value):(a.put d v).tmps.size=a.tmps.size:=by cases d<;>simp[Act.put]
theorem put_defers(a:Act)(d:Option Nat)(v:Value):(a.put d v).defers=a.defers:=by cases d<;>rfl
variable{A:FuncId}
theorem T8{a:Array Value}{R:Ending→World→Prop}(h:Calls P A a w R):CallsIn (fw ro) nn P A a w R:=by
 have c:=(callsIn_wide (n:=nn)).2 h;exact⟨trivial,fun b d=>c.2 b (room_wide _)⟩
theorem anX{b:Op}{x:Fr→V}(a:cop N T b=.mO x):∃y,b=.next y false∧hH y=some x:=by
 cases b<;>simp only[cop,reduceCtorEq]at a
 case next y d=>
  obtain⟨f,c,a⟩:=av.1 (dZ a aE);cases d<;>cases a;exact⟨y,rfl,c⟩
 case makeFunc f _ _=>
  cases f<;>simp only[reduceCtorEq]at a;exact dead a
 all_goals exact dead a
theorem vL{a:Op}(h:cop N T a≠ .bad):∀c,a≠ .defer c:=by
 rintro c rfl;exact h rfl
variable{u:Nat}{d:List Nat}
theorem Pz:u∈oJ h d↔u∈d∧u≠h:=by
 unfold oJ;induction d with
 |nil=>simp[kL]
 |cons a d c=>
  have e:kL (fun u=> !(bn u h)) (a::d)=Bool.casesOn (motive:=fun _=>List Nat) (!(bn a h)) (kL (fun u=> !(bn u h)) d) (a::kL (fun u=> !(bn u h)) d):=rfl;rw[e];by_cases b:a=h
  ·simp_all
  ·have:bn a h=false:=lq.2 (fun e=>b ((beq_eq _ _).1 e));simp only[this,je,jr,c]
   grind
theorem N1(a:q6 φ O S){e:MapEntry}(h:e∈S):∃i k v,O[i]? =some (k,v)∧e.born=i∧aL φ k e.key∧aL φ v e.val:=by
 obtain⟨i,hi,rfl⟩:=List.mem_iff_getElem.1 h;have b:i<O.length:=by rw[←a.1];exact hi
 have c:O[i]? =some (O[i].1,O[i].2):=cx b;obtain⟨x,d,f,g,j⟩:=a.2 i _ _ c
 grind
variable{L:Nat}
theorem anH(A:Rel φ H w){p:Value}(hp:aL φ (.ptr a 0) p){since:Nat}{left:List Nat}(g:H.get a=.cl (.iter u since left i L))(J:H.get u=.cl (.map O))(V:TypeId):
 ∃v W H' X,(Instr.next p false V).run P w=.ok W X∧Ext φ H w φ H' X∧aL φ v W∧((∃b k x,O[b]? =some (k,x)∧(b∈left∨since≤b)∧v=.aA [.bool true,k,x]∧H'=H.set a (.cl (.iter u since (oJ b left) (some b) O.length)))∨
  ((∀b∈left,O.length≤b)∧v=.aA [.bool false]∧H'=H)):=by
 cases hp with
 |ptr K=>
 rename_i l;obtain⟨a1,o,seen,F,G,g3,b0,I,aw⟩:=A.cl K g;obtain⟨_,n,g4,q⟩:=A.cl F J;have a7:=uz (P:=P) G rfl;have a8:=uz (P:=P) g4 rfl;have a3:(!(⟨seen⟩:Array Nat).isEmpty&& !(⟨n⟩:Array MapEntry).isEmpty&&(⟨n⟩:Array MapEntry).all (fun e=>decide (e.born≥L)))=false:=by
  cases seen with
  |nil=>simp
  |cons ca ss=>
   have hl:=g3 aE;cases n with
   |nil=>simp
   |cons e0 bv=>
    obtain⟨b,k,v,D,E,_⟩:=N1 q (e:=e0) aE;have h0:=q.1;cases O with
    |nil=>simp at h0
    |cons x0 xr=>
     obtain⟨k0,v0⟩:=x0;obtain⟨y,Y,_,_,Z⟩:=q.2 0 k0 v0 aE
     grind
 let B:=(⟨n⟩:Array MapEntry).filter fun e=> !(⟨seen⟩:Array Nat).contains e.born
 let d:=B.filter (fun e=>decide (e.born<since));let t:=B.filter (fun e=>decide (e.born≥since));let f:Array (Option MapEntry):=(if d.isEmpty then #[none]else #[])++(d++t).map some;have N:0<f.size:=by
  show 0<((if d.isEmpty then #[none]else #[])++(d++t).map some:Array (Option MapEntry)).size;by_cases h:d.isEmpty
  ·simp[h];omega
  ·have:0<d.size:=by
    rcases r_ d.size with e|e
    ·grind
    ·exact e
   simp;omega
 obtain⟨j,C,r,be,a2⟩:∃j C,j<f.size∧(∃k,C= { w with drawn:=w.drawn+k })∧(choose (.mapNext f.size)).run P w=.ok j C:=by
  by_cases hf:(Question.mapNext f.size).forced=true
  ·exact⟨0,w,N,⟨0,rfl⟩,by simp_all⟩
  ·exact⟨_,w.drew,eX _ N,⟨1,rfl⟩,by rw[run_choose_drew,aj hf];rfl⟩
 obtain⟨s,rfl⟩:=be;have T:=A.drew s;have S:Ext φ H w φ H { w with drawn:=w.drawn+s }:=⟨T,aG.le_refl φ,fun e1 e2=>absurd (e1.symm.trans e2) aE,fun _ _ _=>rfl,aF _,fun _ _=>rfl,aF _,⟨rfl,rfl,rfl,fun h=>h,fun _ cs _ _ h=>⟨cs,h,rfl⟩⟩,fun _ h=>⟨h,rfl⟩,fun _ _ e=>.inl e⟩;obtain⟨m,M⟩:∃m,f[j]? =some m:=⟨f[j],by simp[r]⟩
 have bd:(Instr.next (.pointer (some ⟨l.c,l.base+0,none⟩)) false V).run P w=(match(some m:Option (Option MapEntry))with
  |some (some e)=>(do setObj l.c (.mapIter (some o.c) since ((⟨seen⟩:Array Nat).push e.born) O.length);pure (.tuple #[.bool true,e.key,e.val]):Sem Value)
  |some none=>(pure (.tuple #[.bool false]):Sem Value)
  |none=>stuck "Next: no such candidate").run P { w with drawn:=w.drawn+s }:=by
  simp only[Instr.next,a1,cG,eg,a7,eH,a8,a3,iM,if_false]
  show((choose (.mapNext f.size)).run P w).andThen _=_;rw[a2];simp only[eH]
  show(match f[j]? with
   |some (some e)=>(do setObj l.c (.mapIter (some o.c) since ((⟨seen⟩:Array Nat).push e.born) O.length);pure (.tuple #[.bool true,e.key,e.val]):Sem Value)
   |some none=>(pure (.tuple #[.bool false]):Sem Value)
   |none=>stuck "Next: no such candidate").run P { w with drawn:=w.drawn+s }=_
  rw[M]
 have a4:m∈f:=Array.mem_of_getElem? M;have Q:m∈((if d.isEmpty then #[none]else #[])++(d++t).map some:Array (Option MapEntry)):=a4;cases m with
 |none=>
  have b1:d.isEmpty=true:=by
   by_cases h:d.isEmpty
   ·exact h
   ·simp[h]at Q
  refine⟨.aA [.bool false],.tuple #[.bool false],H,_,?_,S,.aA (.cons (.bool false) .nil),.inr ⟨?_,rfl,rfl⟩⟩
  ·rw[bd];simp
  ·intro b ba;obtain⟨a9,z⟩:=aw b ba;refine jW fun a'=>?_
   obtain⟨x,Y,_,_,Z⟩:=q.2 b O[b].1 O[b].2 (cx a');have hx:x∈d:=by
    have bi:x∈n:=eN Y;show x∈(Array.filter _ (Array.filter _ ⟨n⟩));simp[bi,Z,z,a9]
   grind
 |some e=>
  have a5:e∈B:=by
   have g:e∈d∨e∈t:=by
    rcases Array.mem_append.1 Q with h|h
    ·simp_all
    ·simpa using h
   rcases g with h|h
   ·grind
   ·grind
  have R:=Array.mem_filter.1 a5;obtain⟨b,k,v,D,E,f3,f4⟩:=N1 q (e:=e) (by simpa using R.1);have z:b∉seen:=by
   have:=R.2;simp[E]at this;exact this
  have ap:({ w with drawn:=w.drawn+s }:World).heap[l.c]? =some (.mapIter (some o.c) since ⟨seen⟩ L):=G;have b2:=Hx (P:=P) (o':=.mapIter (some o.c) since ((⟨seen⟩:Array Nat).push e.born) O.length) ap rfl;refine⟨.aA [.bool true,k,v],.tuple #[.bool true,e.key,e.val],_,_,?_,S.trans (Fy T K g (o':=.iter u since (oJ b left) (some b) O.length) (x:=.mapIter (some o.c) since ((⟨seen⟩:Array Nat).push e.born) O.length) ?_),.aA (.cons (.bool true) (.cons f3 (.cons f4 .nil))),.inl ⟨b,k,v,D,(if U:b<since then .inl (I b U z)else .inr (jW U)),rfl,rfl⟩⟩
  ·simp_all
  ·refine⟨o,seen++[b],F,?_,fun _=>?_,aE,?_,?_⟩
   ·grind [GX]
   ·grind
   ·intro j r bb;have g:j∉seen∧j≠b:=by simpa using bb
    exact Pz.2 ⟨I j r g.1,g.2⟩
   ·intro j r;obtain⟨g,J⟩:=Pz.1 r;simp_all
variable{J:Exit→Act→World→Prop}
theorem RQ{C:Array Oper}(hi:C[h]? =some Y)(hT:cT P T)(b5:jV P N){a:Act}
 (O:jH φ F a.eval Y.op.operands.toList) (ad:∀ {wb:Bool},(stepOf N T C.toList Y).want F=some wb→Region.wanted Y (yielded C a.tmps)=wb) (z:Rel φ H w) (hg:lu G φ) (i:jw P G (stepOf N T C.toList Y) F H e) {K:Act→World→Prop}
 (p:∀ {v:V}{q:Value}{R:aG}{D:World}{H':af},Ext φ H w R H' D→aL R v q→e (put F Y.dst v) H'→K (a.put Y.dst q) D):wpOpIn (fw ro) nn P C J h K a w:=by
 have al:∀f,a.eval (.func f)=.func (.func f) #[] #[]:=fun f=>rfl
 unfold wpOpIn;simp only[hi];rcases i with⟨A,i⟩|⟨A,i⟩
 ·have A:=ad A;simp only[A,iM,if_false];exact⟨fun _ _=>trivial,p (Ext.refl z) (.aA .nil) i⟩
 ·have be:=A;have A:=ad A;simp only[A,if_true];refine⟨fun _ _=>trivial,?_⟩;have bd:(stepOf N T C.toList Y).cop=cop N T Y.op:=rfl
  have U:∀ {E:Fr}{s:af},exec qH (stepOf N T C.toList Y) F H=some (E,s)→(match cop N T Y.op with
   |.bad=>aJ
   |.pu j g=>an (g (vals j F)) fun r=>aX.casesOn (motive:=fun _=>Option (Fr×af)) r (fun v=>some (put F Y.dst v,H)) (fun cs sh=>some (put F Y.dst (sh.mk H.next),H.push (.cells cs 0)))
   |.rd j g=>an (g (vals j F) H) fun v=>some (put F Y.dst v,H)
   |.gK j g=>an (g (vals j F) H) fun r=>some (put F Y.dst r.1,r.2)
   |.call j g=>an (g (vals j F)) fun c=>an (qH c.1 c.2 H) fun r=>some (put F Y.dst r.1,r.2)
   |.mO _=>aJ)=some (E,s):=by
    intro E s M;unfold exec at M;rw[be]at M;exact M
  rw[bd]at i;cases d:cop N T Y.op with
  |bad=>
   grind
  |pu j g=>
   rw[Oper.semAt_eq _ _ _ (vL (N:=N) (T:=T) (by rw[d];simp))];rw[d]at i;obtain⟨E,s,B,l⟩:=i;have u:=U B;clear B;rw[d]at u;obtain⟨r,Q,L⟩:=av.1 u;have hp:=Qm hT b5 al Y d O Q w;cases r with
   |val v=>
    obtain⟨q,n,o⟩:=hp;cases L;rw[n];exact p (Ext.refl z) o l
   |new cd sh=>
    obtain⟨q,D,cb,n,o,I⟩:=hp;cases L;rw[n];exact p (ag3 z o) (I _ _ (aG.tJ _ _ _)) l
  |rd j g=>
   rw[Oper.semAt_eq _ _ _ (vL (N:=N) (T:=T) (by rw[d];simp))];rw[d]at i;obtain⟨E,s,B,l⟩:=i;have u:=U B;clear B;rw[d]at u;obtain⟨v,Q,L⟩:=av.1 u;cases L;obtain⟨q,n,o⟩:=QJ hT z Y d O Q;rw[n];exact p (Ext.refl z) o l
  |gK j g=>
   rw[Oper.semAt_eq _ _ _ (vL (N:=N) (T:=T) (by rw[d];simp))];rw[d]at i;obtain⟨E,s,B,l⟩:=i;have u:=U B;clear B;rw[d]at u;obtain⟨r,Q,L⟩:=av.1 u;cases L;obtain⟨bG,q,D,R,n,o,I,Z⟩:=agD hT z Y d O Q;rw[n];rcases o with rfl|⟨rfl,rfl⟩
   ·exact p I Z l
   ·exact p I Z l
  |call j g=>
   rw[Oper.semAt_eq _ _ _ (vL (N:=N) (T:=T) (by rw[d];simp))];rw[d]at i;obtain⟨t,bv,n,l⟩:=i;have ba:=T7 (P:=P) (w:=w) al Y d O n;cases t with
   |fn f=>
    obtain⟨b0,o,I⟩:=ba l.1;rw[o];refine⟨fun M=>by simp[fw,Fence.wide]at M,T8 ((l.2 _ _ _ z hg I).mono ?_)⟩;rintro b2 D ⟨v,q,s,R,rfl,h6,h7,h8⟩;exact p h6 h7 h8
  |mO x=>
   rw[Oper.semAt_eq _ _ _ (vL (N:=N) (T:=T) (by rw[d];simp))];rw[d]at i;obtain⟨b,m,since,left,b1,ca,es,g1,g2,g3,g4,a7⟩:=i;obtain⟨y,hy,bi⟩:=anX d;obtain⟨a0,ce,ty,bo,after,guard⟩:=Y;simp only at hy;subst hy;have hv:=O y (by simp[Op.operands]) x bi;rw[g1]at hv;obtain⟨v,q,s,D,f1,W,X,f4⟩:=anH (P:=P) z hv g2 g3 ty;have bc:(execOp a.eval ⟨a0,.next y false,ty,bo,after,guard⟩).run P w=.ok (.value q) D:=by
    simp only[execOp,eg,f1,eH,fZ]
   rw[bc];rcases f4 with⟨i',k,x',S,e2,rfl,rfl⟩|⟨S,rfl,rfl⟩
   ·exact p W X (g4 i' k x' S e2)
   ·exact p W X (a7 S)
theorem aqO{b:Array Oper}(hi:b[h]? =some Y)(hT:cT P T)(b5:jV P N){a:Act}
 (l:∀Y∈b.toList,ny G a.tmps.size Y=true) (t:Rel φ H w) (i:jI φ F a.tmps) (k:lu G φ) (q:jw P G (stepOf N T b.toList Y) F H e) {K:Act→World→Prop}
 (p:∀f c d F' H',Ext φ H w f H' d→jI f F' c.tmps→c.tmps.size=a.tmps.size→c.defers=a.defers→e F' H'→K c d):wpOpIn (fw ro) nn P b J h K a w:=by
 have r:Y∈b.toList:=eN (by simpa using hi);have s:=an7 (l Y r) i k;have u:∀ {m:Bool},(stepOf N T b.toList Y).want F=some m→Region.wanted Y (yielded b a.tmps)=m:=fun g=>arZ (fun Y g=>by have:=l Y g;unfold ny at this;grind) i Y g
 refine RQ hi hT b5 s u t k q ?_;intro v x f d H' j n o;exact p f _ d _ H' j ((i.mono j.le).put n) (zM _ _ _) (put_defers _ _ _) o
theorem aok{c:Array Oper}{Q:Exit→Act→World→Prop}(hT:cT P T)(b5:jV P N)(M:∀o∈c.toList,ny G h o=true):
 ∀(l:List Oper) (k:Nat) (φ:aG) (F:Fr) (H:af) (a:Act) (w:World),(∀(j:Nat) (o:Oper),l[j]? =some o→c[k+j]? =some o)→a.tmps.size=h→Rel φ H w→jI φ F a.tmps→lu G φ→
  gI P G (lmap (fun o=>c6.ex (stepOf N T c.toList o)) l) F H e→
  (∀g b f F' H',Ext φ H w g H' f→jI g F' b.tmps→b.tmps.size=h→b.defers=a.defers→e F' H'→Q .normal b f)→wpOpsIn (fw ro) nn P c Q (tB k l.length) a w:=by
 intro l;induction l with
 |nil=>
  intro k φ F H a w _ d t r s p q;exact q φ a w F H (Ext.refl t) r d rfl p
 |cons o l O=>
  intro k φ F H a w hl d t r s p q;have K:jw P G (stepOf N T c.toList o) F H fun i m=>gI P G (lmap (fun o=>c6.ex (stepOf N T c.toList o)) l) i m e:=p
  rw[cV,List.range'_succ,wpOpsIn_cons];refine aqO (hl 0 o aE) hT b5 (by rw[d];exact M) t r s K ?_;intro g b f i m n y z A B;refine O (k+1) g i m b f (fun j R L=>by have:=hl (j+1) R (by simpa using L);grind) (z.trans d) n.rel y (s.mono n.le) B ?_;intro U x S u v C D E I J;exact q U x S u v (n.trans C) D E (I.trans A) J
end
theorem FX(m i:Nat):iS m i=m.testBit i:=by
 unfold iS;rw[Nat.testBit_eq_decide_div_mod_eq,Bool.eq_iff_iff,beq_eq];have:Nat.shiftRight m i=m/2^i:=Nat.shiftRight_eq_div_pow m i;rw[this];simp;exact Iff.rfl
theorem aiB(a b i:Nat):iS (Nat.lor a b) i=true↔iS a i=true∨iS b i=true:=by
 simp_all [FX,Nat.testBit_or,tq]
theorem aiC(k i:Nat):iS (Nat.shiftLeft 1 k) i=true↔k=i:=by
 simp_all [Nat.one_shiftLeft,FX,Nat.testBit_two_pow]
theorem OA(i:Nat):iS 0 i=false:=by rw[FX];simp
theorem amZ(a:List Nat)(b:List Edge)(j:Nat):iS (qF a b) j=true↔∃e∈b,kG e=true∧(e.on=j∨iS (rI 0 a e.on) j=true):=by
 induction b with
 |nil=>
  have:qF a []=0:=rfl
  grind [OA]
 |cons e b d=>
  have h:qF a (e::b)=Bool.casesOn (motive:=fun _=>Nat) (kG e) (qF a b) (Nat.lor (qF a b) (Nat.lor (Nat.shiftLeft 1 e.on) (rI 0 a e.on))):=rfl;rw[h];cases c:kG e with
  |false=>
   grind
  |true=>
   grind [aiB,aiC]
theorem am0:∀(ops:List Oper) (a:List Nat),(masks ops a).length=a.length+ops.length∧(∀i,i<a.length→(masks ops a)[i]? =a[i]?)∧
 ∀(j:Nat) (o:Oper),ops[j]? =some o→(masks ops a)[a.length+j]? =some (qF ((masks ops a).take (a.length+j)) o.after.toList):=by
 intro ops;induction ops with
 |nil=>
  intro a;have e:masks [] a=a:=rfl
  grind
 |cons o ops g=>
  intro a;have e:masks (o::ops) a=masks ops (cX a [qF a o.after.toList]):=rfl;rw[e,iH];obtain⟨b,d,f⟩:=g (a++[qF a o.after.toList]);have hl:(a++[qF a o.after.toList]).length=a.length+1:=aE;rw[hl]at b d f;refine⟨by simp[b];omega,fun i hi=>by grind,fun j k c=>?_⟩;cases j with
  |zero=>
   simp at c;subst c;have h:(masks ops (a++[qF a o.after.toList])).take (a.length+0)=a:=by
    apply uQ;intro i;by_cases hi:i<a.length
    ·grind
    ·grind
   grind
  |succ j=>
   grind
def maskAt(ops:List Oper)(i:Nat):Nat:=rI 0 (masks ops []) i
def Pred(ops:List Oper)(i j:Nat):Prop:=iS (maskAt ops i) j=true
theorem agy:∀ {ops:List Oper}{k:Nat},mE ops k=true→∀(j:Nat) (o:Oper),ops[j]? =some o→∀e∈o.after.toList,kG e=true→e.on<k+j:=by
 intro ops;induction ops with
 |nil=>grind
 |cons o ops f=>
  intro k h j g b e c d;have a:and (l5 (fun e=>or (!(kG e)) (bL (Nat.succ e.on) k)) o.after.toList) (mE ops (k+1))=true:=h;rw[cC]at a;cases j with
  |zero=>
   simp at b;subst b;have:=uc.1 a.1 e c;simp_all;omega
  |succ j=>
   grind
section
variable {ops:List Oper} (hE:mE ops 0=true)
include hE
theorem y3{i:Nat}{o:Oper}(hi:ops[i]? =some o){e:Edge}(b:e∈o.after.toList)(a:kG e=true):e.on<i:=by
 have:=agy hE i o hi e b a;omega
theorem GV:Pred ops a h↔∃o,ops[a]? =some o∧∃e∈o.after.toList,kG e=true∧(e.on=h∨Pred ops e.on h):=by
 obtain⟨c,d,b⟩:=am0 ops [];simp only[kS,eJ]at c b;unfold Pred maskAt;rw[BZ];cases hi:ops[a]? with
 |none=>
  grind [List.getElem?_eq_none_iff,OA]
 |some o=>
  rw[b a o hi];simp only[Option.getD_some,amZ,Option.some.injEq,exists_eq_left']
  grind [y3,BZ,List.getElem?_take_of_lt]
theorem pred_lt:∀ {i j:Nat},Pred ops i j→j<i:=by
 intro i;induction i using jG with
 |_ i a=>
  grind [GV,y3]
theorem GW:∀ {i j k:Nat},Pred ops i j→Pred ops j k→Pred ops i k:=by
 intro i;induction i using jG with
 |_ i a=>
  grind [GV,y3]
def C'(ops:List Oper)(L:Nat→Prop):Prop:=∀i o,L i→ops[i]? =some o→∀e∈o.after.toList,kG e=true→L e.on
omit hE in
theorem D8(hE:mE ops 0=true){L:Nat→Prop}(d:C' ops L):∀ {i j:Nat},(∀o,ops[i]? =some o→∀e∈o.after.toList,kG e=true→L e.on)→Pred ops i j→L j:=by
 intro i;induction i using jG with
 |_ i n=>
  intro j m h;obtain⟨o,hi,e,b,a,h⟩:=(GV hE).1 h;have k:=y3 hE hi b a;have hl:=m o hi e b a;rcases h with h|h
  ·rw[←h];exact hl
  ·exact n _ k (fun p l c g f=>d _ p hl l c g f) h
end
section
variable {N:eT}{T:cc}
theorem an5{c:Fr}:∀ {l:List Operand}{b:List (Fr→V)},iK l=some b→(∀t,Operand.tmp t∈l→c.get V.undef t=m.get V.undef t)→vals b c=vals b m:=by
 intro l;induction l with
 |nil=>intro b h _;cases h;rfl
 |cons x l k=>
  intro b h d;obtain⟨f,a,h⟩:=av.1 (show an (hH x) (fun f=>an (iK l) fun r=>some (f::r))=some b from h);obtain⟨r,i,h⟩:=av.1 h;cases h;have e:f c=f m:=by
   cases x with
   |tmp t=>cases a;exact d t aE
   |const v=>
    obtain⟨y,j,a⟩:=av.1 (show an (mU 20 v) (fun y=>some (fun _=>y))=some f from a);cases a;rfl
   |global g=>cases a;rfl
   |func g=>cases a;rfl
  show f c::vals r c=f m::vals r m
  grind
theorem vP{f:Fr→V}(h:hH k=some f):iK [k]=some [f]:=by
 show an (hH k) _=_;rw[h];rfl
def Looks(a:Op)(b:List (Fr→V)):Prop:=∃l,iK l=some b∧∀x∈l,x∈a.operands.toList
variable{D:List V→Option aX}
theorem TA{b:BinOp}{a:List (Fr→V)}(h:wS T b g t=.pu a D):a=t:=by
 unfold wS at h
 grind
theorem UL{d:TypeId}{a:List (Fr→V)}(h:ry T g d t=.pu a D):a=t:=by
 unfold ry at h
 grind
theorem TO{b:Builtin}{e:List TypeId}{c:List (Fr→V)}(h:AH T b e t=.pu c D):c=t:=by
 have a:=dZ h aE;obtain⟨j,g,a⟩:=av.1 a;obtain⟨d,f,a⟩:=av.1 a;cases b<;>simp only[reduceCtorEq]at a
 case append=>
  split at a
  ·obtain⟨i,_,a⟩:=av.1 a;obtain⟨z,_,a⟩:=av.1 a;obtain⟨k,_,a⟩:=av.1 a;obtain⟨_,a⟩:=cL.1 a;cases z
   ·cases a
   ·cases a;rfl
  ·cases a
 case copy=>
  split at a
  ·obtain⟨s,_,a⟩:=av.1 a;cases a
  ·cases a
 case cap=>grind
 case len=>grind
 case max=>cases a;rfl
 grind
theorem xP{r:Op}(a:cop N T r=.pu t D):Looks r t:=by
 cases r<;>simp only[cop,reduceCtorEq]at a
 case move x|box j x|nilCheck x|extract x i=>
  obtain⟨f,e,a⟩:=av.1 (dZ a aE);cases a;exact⟨_,vP e,by simp[Op.operands]⟩
 case pick c x y=>
  obtain⟨k,e,a⟩:=av.1 (dZ a aE);cases a;exact⟨_,e,by simp[Op.operands]⟩
 case alloc j=>
  obtain⟨A,w,a⟩:=av.1 (dZ a aE);cases a;exact⟨[],rfl,aE⟩
 case build j parts=>
  have h:=dZ a aE;obtain⟨A,w,h⟩:=av.1 h;obtain⟨d,o,h⟩:=av.1 h;split at h
  ·obtain⟨R,P,h⟩:=av.1 h;obtain⟨q,u,h⟩:=av.1 h;cases h;exact⟨_,(xN u).2.2,by simp[Op.operands]⟩
  ·obtain⟨s,v,h⟩:=av.1 h;obtain⟨q,u,h⟩:=av.1 h;cases h;exact⟨_,(xN u).2.2,by simp[Op.operands]⟩
  ·cases h
 case buildSlice j n parts=>
  have h:=dZ a aE;obtain⟨d,o,h⟩:=av.1 h;split at h
  ·obtain⟨s,v,h⟩:=av.1 h;obtain⟨L,h⟩:=cL.1 h;obtain⟨A,w,h⟩:=av.1 h;obtain⟨q,u,h⟩:=av.1 h;obtain⟨Q,h⟩:=cL.1 h;cases h;exact⟨_,(xN u).2.2,by simp[Op.operands]⟩
  ·cases h
 case binOp r j x y S=>
  obtain⟨k,e,a⟩:=av.1 (dZ a aE);rw[TA (Option.some.inj a)];exact⟨_,e,by simp[Op.operands]⟩
 case unOp r j x=>
  obtain⟨f,e,a⟩:=av.1 (dZ a aE);cases r<;>simp only[reduceCtorEq]at a
  all_goals
   cases a;exact⟨_,vP e,by simp[Op.operands]⟩
 case convert s d x=>
  obtain⟨f,e,a⟩:=av.1 (dZ a aE);rw[UL (Option.some.inj a)];exact⟨_,vP e,by simp[Op.operands]⟩
 case makeFunc z first captured=>
  cases z<;>simp only[reduceCtorEq]at a;obtain⟨k,e,a⟩:=av.1 (dZ a aE);cases a;exact⟨_,e,by rw[iH];simp[Op.operands]⟩
 case makeSlice j l c=>
  obtain⟨k,e,a⟩:=av.1 (dZ a aE);obtain⟨d,o,a⟩:=av.1 a;split at a
  ·obtain⟨i,hi,a⟩:=av.1 a;obtain⟨A,w,a⟩:=av.1 a;obtain⟨v,a⟩:=cL.1 a;cases a;exact⟨_,e,by simp[Op.operands]⟩
  ·cases a
 case slice j x lo hi mx=>
  obtain⟨k,e,a⟩:=av.1 (dZ a aE);obtain⟨d,o,a⟩:=av.1 a;have hl:∀y∈x::cX (j7 lo) (cX (j7 hi) (j7 mx)),y∈(Op.slice j x lo hi mx).operands.toList:=by
   cases lo<;>cases hi<;>cases mx<;>simp[Op.operands,j7,iH]
  split at a
  ·cases a;exact⟨_,e,hl⟩
  ·obtain⟨s,v,a⟩:=av.1 a;cases a;exact⟨_,e,hl⟩
  ·obtain⟨s,v,a⟩:=av.1 a;cases a;exact⟨_,e,hl⟩
  ·cases a
 case fieldAddr s x f=>
  obtain⟨p,e,a⟩:=av.1 (dZ a aE);obtain⟨d,o,a⟩:=av.1 a;split at a
  ·obtain⟨G,I,a⟩:=av.1 a;obtain⟨n,M,a⟩:=av.1 a;obtain⟨w,a⟩:=cL.1 a;cases a;exact⟨_,vP e,by simp[Op.operands]⟩
  ·cases a
 case indexAddr j x i=>
  obtain⟨k,e,a⟩:=av.1 (dZ a aE);obtain⟨d,o,a⟩:=av.1 a;split at a
  rotate_right
  ·cases a
  all_goals
   obtain⟨s,v,a⟩:=av.1 a;cases a;exact⟨_,e,by simp[Op.operands]⟩
 case index j x i=>
  obtain⟨k,e,a⟩:=av.1 (dZ a aE);obtain⟨d,o,a⟩:=av.1 a;split at a
  ·cases a;exact⟨_,e,by simp[Op.operands]⟩
  ·cases a
 case call c=>
  obtain⟨callee,B,F⟩:=c;have g:=dZ a aE;clear a;have hl:∀y∈B.toList,y∈(Op.call ⟨callee,B,F⟩).operands.toList:=by
   intro y E;simp[Op.operands,Call.operands];exact .inr (by simpa using E)
  cases callee with
  |value x=>
   cases x<;>simp only[]at g
   case func f=>
    obtain⟨z,J,g⟩:=av.1 g;obtain⟨k,e,g⟩:=av.1 g;cases C:z.body with
    |some c=>simp_all
    |none=>
     rw[C]at g;obtain⟨O,g⟩:=cL.1 g;obtain⟨H,K,g⟩:=av.1 g;cases g;exact⟨_,e,hl⟩
   all_goals exact dead g
  |invoke x m=>cases g
  |builtin b=>
   obtain⟨k,e,g⟩:=av.1 g;rw[TO (Option.some.inj g)];exact⟨_,e,hl⟩
 all_goals exact dead a
end
section
variable {N:eT}{T:cc}
variable{R:List V→af→Option V}
theorem QI{p:Op}(b:cop N T p=.rd t R):
 ∃l,iK l=some t∧(∀x∈l,x∈p.operands.toList)∧((∃k n,R=iz k n)∨R=ta∨(∃f z o,R=ue f z o)∨R=ud∨R=sC):=by
 cases p<;>simp only[cop,reduceCtorEq]at b
 case load q a=>
  obtain⟨f,h,b⟩:=av.1 (dZ b aE);obtain⟨k,w,b⟩:=av.1 b;obtain⟨n,y,b⟩:=av.1 b;cases b;exact⟨[a],vP h,by simp[Op.operands],.inl ⟨k,n,rfl⟩⟩
 case convert s d x=>
  obtain⟨f,h,b⟩:=av.1 (dZ b aE);have j:ry T s d [f]=.rd t R:=Option.some.inj b;unfold ry at j;split at j<;>first|(cases j;done)|skip
  ·grind
  ·split at j
   ·cases j;exact⟨[x],vP h,by simp[Op.operands],.inr (.inl rfl)⟩
   ·cases j
 case call c=>
  obtain⟨callee,B,C⟩:=c;have g:=dZ b aE;clear b;cases callee with
  |value x=>cases x<;>simp only[]at g<;>exact dead g
  |invoke x m=>cases g
  |builtin bi=>
   obtain⟨r,u,g⟩:=av.1 g;have e:=dZ (Option.some.inj g) aE;clear g;obtain⟨q,A,e⟩:=av.1 e;obtain⟨d,v,e⟩:=av.1 e;cases bi<;>simp only[reduceCtorEq]at e
   case len=>
    cases d<;>simp only[reduceCtorEq,Option.some.injEq,bQ.rd.injEq]at e;obtain⟨rfl,rfl⟩:=e;exact⟨_,u,by simp[Op.operands,Call.operands],.inr (.inr (.inr (.inl rfl)))⟩
   all_goals exact dead e
 case lookup q x i o=>
  obtain⟨r,h,b⟩:=av.1 (dZ b aE);obtain⟨d,_,b⟩:=av.1 b;cases d<;>simp only[reduceCtorEq]at b;obtain⟨f,_,b⟩:=av.1 b;obtain⟨_,_,b⟩:=av.1 b;obtain⟨_,_,b⟩:=av.1 b;obtain⟨z,_,b⟩:=av.1 b;cases b;exact⟨_,h,by simp[Op.operands],.inr (.inr (.inl ⟨f,z,o,rfl⟩))⟩
 case entry x=>
  obtain⟨f,h,b⟩:=av.1 (dZ b aE);cases b;exact⟨[x],vP h,by simp[Op.operands],.inr (.inr (.inr (.inr rfl)))⟩
 case makeFunc f _ _=>
  cases f<;>simp only[reduceCtorEq]at b;exact dead b
 all_goals exact dead b
theorem G6{a:Op}(d:cop N T a=.rd t R):Looks a t:=by
 obtain⟨l,b,c,_⟩:=QI d;exact⟨l,b,c⟩
theorem Ko(p:∀h,c.next≤h→c.get h=.none){d:cR}(m:c.cells? h=some b):(c.push d).cells? h=some b:=by
 obtain⟨g,f,n⟩:=cells?_some m;have o:∀ {x:Nat},c.get x≠ .none→c.next≠x:=fun{x} q e=>q (p x aa)
 have k:(c.push d).get h=.cells b g:=by rw[af.aY,aj (o (by rw[f];simp))];exact f
 have l:(c.push d).fV h g=true:=by
  rcases gB.1 n with e|⟨a,i,e,j⟩
  ·exact gB.2 (.inl e)
  ·exact gB.2 (.inr ⟨a,i,by simp_all [af.aY,aj],j⟩)
 unfold af.cells?;rw[k];show aQ ((c.push d).fV h g) (some b)=some b;rw[l];rfl
theorem ao7{E:Op}(B:cop N T E=.rd t R)(r:∀a,c.next≤a→c.get a=.none){k:cR}{v:V}(h:R b c=some v):R b (c.push k)=some v:=by
 obtain⟨_,_,_,A⟩:=QI B;have C:∀ {x:Nat},c.get x≠ .none→c.next≠x:=fun{x} D e=>D (r x aa)
 have F:∀ {a:Nat}{d:List (V×V)},c.jk a=some d→(c.push k).jk a=some d:=by
  intro a d h;have g:=Gm h;unfold af.jk;simp_all [af.aY,aj]
 have b5:∀ {a o n:Nat}{u:List V},c.cP a o n=some u→(c.push k).cP a o n=some u:=by
  intro a o n u h;obtain⟨i,g,p⟩:=av.1 h;exact av.2 ⟨i,Ko r g,p⟩
 have g:∀ {a o:Nat}{v:V},c.load a o=some v→(c.push k).load a o=some v:=by
  intro a o v h;obtain⟨i,g,p⟩:=av.1 h;exact av.2 ⟨i,Ko r g,p⟩
 rcases A with⟨y,n,rfl⟩|rfl|⟨f,z,H,rfl⟩|rfl|rfl
 ·unfold iz at h⊢;split at h
  ·cases y with
   |false=>exact g h
   |true=>
    obtain⟨i,l,j⟩:=av.1 h
    grind
  ·exact h
  ·cases h
 ·unfold ta at h⊢;split at h
  ·exact h
  ·exact h
  ·obtain⟨i,l,j⟩:=av.1 h
   grind
  ·exact h
  ·cases h
 ·unfold ue at h⊢;split at h
  ·obtain⟨q,l,h⟩:=av.1 h;refine av.2 ⟨q,l,?_⟩;split at h
   ·exact h
   ·obtain⟨d,j,h⟩:=av.1 h
    grind
   ·cases h
  ·cases h
 ·unfold ud at h⊢;split at h
  ·exact h
  ·obtain⟨d,j,h⟩:=av.1 h
   grind
  ·cases h
 ·unfold sC at h⊢;split at h
  ·split at h
   ·rename_i a m s seen G w;rw[af.aY,aj (C (by rw[w];simp)),w];obtain⟨d,j,h⟩:=av.1 h
    grind
   ·cases h
  ·cases h
end
section
variable {N:eT}{T:cc}{ol:List Oper}{B:Nat}
def kY(N:eT)(T:cc)(ol:List Oper)(B:Nat)(o:Oper)(F:Fr)(H:af)(d:aG):Prop:=
 ∃t,o.dst=some t∧
 ((mh ol o.guard F=some false∧F.get V.undef t=V.undef)∨
  (mh ol o.guard F=some true∧∃a g r,cop N T o.op=.pu a g∧g (vals a F)=some r∧
    ((∃v,r=.val v∧F.get V.undef t=v)∨(∃b c id,r=.new b c∧F.get V.undef t=c.mk id∧H.get id=.cells b 0∧d id=none∧id<H.next∧B≤id)))∨
  (mh ol o.guard F=some true∧∃a g,cop N T o.op=.rd a g∧g (vals a F) H=some (F.get V.undef t)))
theorem al_{b:f→Bool}{l:List f}:zg b l=true↔∃x∈l,b x=true:=by
 induction l with
 |nil=>simp[zg]
 |cons a l c=>
  have e:zg b (a::l)=or (b a) (zg b l):=rfl
  grind
theorem vO:Cd a i=true↔i=some a:=by
 cases i with
 |none=>simp[Cd]
 |some u=>exact⟨fun h=>by rw[(beq_eq _ _).1 h],fun h=>by cases h;exact(beq_eq _ _).2 rfl⟩
variable{Y:Oper}
theorem QO(h:Operand.tmp a∈Y.op.operands.toList):reads ol Y a=true:=by
 unfold reads;rw[tq];exact .inl (al_.2 ⟨_,h,(beq_eq _ _).2 rfl⟩)
theorem uI{a:Fr}(h:∀t,reads ol Y t=true→a.get V.undef t=m.get V.undef t):mh ol Y.guard a=mh ol Y.guard m:=by
 unfold mh;cases f:Y.guard with
 |none=>rfl
 |some c=>
  obtain⟨j,b⟩:=c;simp only[];cases d:tN ol j with
  |none=>rfl
  |some t=>
   have:reads ol Y t=true:=by
    unfold reads;rw[tq,f];exact .inr (by simp only[d];exact vO.2 rfl)
   have e:aN.lW V.undef (path t) a=aN.lW V.undef (path t) m:=h t this
   dsimp only
   rw[e]
theorem sS(hl:Looks Y.op t){b:Fr}(h:∀a,reads ol Y a=true→b.get V.undef a=m.get V.undef a):vals t b=vals t m:=by
 obtain⟨l,c,d⟩:=hl
 grind [an5,QO]
theorem kY.keep{d:Fr}{H':af}{q:aG}(f:kY N T ol B Y m c p)(l:∀t,lp ol Y t=true→d.get V.undef t=m.get V.undef t)
 (w:∀id j,c.get id=.cells j 0→p id=none→id<c.next→H'.get id=.cells j 0∧q id=none∧id<H'.next)
 (x:∀a g v,cop N T Y.op=.rd a g→mh ol Y.guard m=some true→g (vals a m) c=some v→m.get V.undef (Y.dst.getD 0)=v→g (vals a m) H'=some v):kY N T ol B Y d H' q:=by
 obtain⟨t,n,f⟩:=f;have i:∀t,reads ol Y t=true→d.get V.undef t=m.get V.undef t:=fun t h=>l t (by unfold lp;rw[h];simp)
 have s:d.get V.undef t=m.get V.undef t:=l t (by unfold lp;rw[vO.2 n];rfl);have o:=uI i;refine⟨t,n,?_⟩;rcases f with⟨e,b⟩|⟨e,a,g,r,b,k,u⟩|⟨e,a,g,b,k⟩
 ·grind
 ·refine .inr (.inl ⟨o.trans e,a,g,r,b,?_,?_⟩)
  ·rw[sS (xP b) i];exact k
  grind
 ·refine .inr (.inr ⟨o.trans e,a,g,b,?_⟩);rw[sS (G6 b) i,s]
  grind
theorem oF(F:Fr)(t u:Nat)(v:V):(put F (some t) v).get V.undef u=if t=u then v else F.get V.undef u:=aN.aK V.undef F t u v
theorem kY.first{cf:jS}(w:Y.dst=some a)(q:qx (cop N T Y.op)=false)(G:reads ol Y a=false){l:Fr}{φ:aG}(H:∀b,c.next≤b→φ b=none)(E:B≤c.next)
 (h:exec cf (stepOf N T ol Y) m c=some (l,I)):
 kY N T ol B Y l I φ∧(∀u,u≠a→l.get V.undef u=m.get V.undef u)∧(I=c∨∃i,I=c.push (.cells i 0))∧(∀d g i j,mh ol Y.guard l=some true→cop N T Y.op=.pu d g→g (vals d l)=some (.new i j)→l.get V.undef a=Shape.mk j c.next):=by
 unfold exec at h;have k:∀ {v:V} u,reads ol Y u=true→(put m (some a) v).get V.undef u=m.get V.undef u:=by
  intro v u s;rw[oF,aj];intro e;subst e;rw[G]at s;cases s
 have F:(stepOf N T ol Y).dst=some a:=w;rw[F]at h;have J:(stepOf N T ol Y).want m=mh ol Y.guard m:=rfl;rw[J]at h;cases n:mh ol Y.guard m with
 |none=>rw[n]at h;cases h
 |some K=>
 cases K with
 |false=>
  rw[n]at h;cases h;exact⟨⟨a,w,.inl ⟨(uI k).trans n,by rw[oF,ao rfl]⟩⟩,fun u s=>by simp_all [oF,aj];omega,.inl rfl,fun d g i j M _ _=>by grind [uI]⟩
 |true=>
  rw[n]at h
  have o:(match cop N T Y.op with
   |.bad=>aJ
   |.pu d g=>an (g (vals d m)) fun r=>aX.casesOn (motive:=fun _=>Option (Fr×af)) r (fun v=>some (put m (some a) v,c)) (fun i j=>some (put m (some a) (j.mk c.next),c.push (.cells i 0)))
   |.rd d g=>an (g (vals d m) c) fun v=>some (put m (some a) v,c)
   |.gK d g=>an (g (vals d m) c) fun r=>some (put m (some a) r.1,r.2)
   |.call d g=>an (g (vals d m)) fun A=>an (cf A.1 A.2 c) fun r=>some (put m (some a) r.1,r.2)
   |.mO _=>aJ)=some (l,I):=h
  cases f:cop N T Y.op with
  |bad=>rw[f]at o;cases o
  |gK d g=>rw[f]at q;cases q
  |call d g=>rw[f]at q;cases q
  |mO x=>rw[f]at q;cases q
  |pu d g=>
   rw[f]at o;obtain⟨r,p,z⟩:=av.1 o;cases r with
   |val v=>
    cases z;refine⟨⟨a,w,.inr (.inl ⟨(uI k).trans n,d,g,.val v,f,by rw[sS (xP f) k];exact p,.inl ⟨v,rfl,by rw[oF,ao rfl]⟩⟩)⟩,fun u s=>by simp_all [oF,aj];omega,.inl rfl,fun D C i j _ t y=>by
     cases t;rw[sS (xP f) k,p]at y;cases y⟩
   |new i j=>
    cases z
    refine⟨⟨a,w,.inr (.inl ⟨(uI k).trans n,d,g,.new i j,f,by rw[sS (xP f) k];exact p,.inr ⟨i,j,c.next,rfl,by rw[oF,ao rfl],by rw[af.aY,ao rfl],H _ (aF _),by show c.next<c.next+1;omega,E⟩⟩)⟩,
     fun u s=>by simp_all [oF,aj];omega,.inr ⟨i,rfl⟩,fun D C L O _ t y=>by
      cases t;rw[sS (xP f) k,p]at y;simp_all [oF,ao]⟩
  |rd d g=>
   rw[f]at o;obtain⟨v,p,z⟩:=av.1 o;cases z;refine⟨⟨a,w,.inr (.inr ⟨(uI k).trans n,d,g,f,by rw[sS (G6 f) k,oF,ao rfl];exact p⟩)⟩,fun u s=>by simp_all [oF,aj];omega,.inl rfl,fun D C i j _ t _=>by cases t⟩
end
section
variable {N:eT}{T:cc}{ol:List Oper}{B:Nat}{cf:jS}
theorem Rel.aiV(a:Rel p c q):∀b,c.next≤b→c.get b=.none:=fun _ h=>(a.top h).2
def sk(N:eT)(T:cc)(ol:List Oper)(o:Oper)(F:Fr)(id:Nat):Prop:=
 ∃t b g c a,o.dst=some t∧mh ol o.guard F=some true∧cop N T o.op=.pu b g∧g (vals b F)=some (.new c a)∧F.get V.undef t=Shape.mk a id
def Ao(N:eT)(T:cc)(ol:List Oper)(D:Oper→Prop)(F:Fr):Prop:=∀x y,D x→D y→∀id,sk N T ol x F id→sk N T ol y F id→x=y
theorem mk_inj{s c:Shape}{a:Nat}(b:s.mk a=c.mk h):a=h:=by
 cases s<;>cases c<;>simp only[Shape.mk]at b<;>cases b<;>rfl
variable{Y:Oper}
theorem sk.congr{a:Fr}{id:Nat}(h:sk N T ol Y a id)(d:∀t,lp ol Y t=true→a.get V.undef t=m.get V.undef t):sk N T ol Y m id:=by
 obtain⟨t,o,g,f,n,b,i,c,j,k⟩:=h;have e:∀t,reads ol Y t=true→a.get V.undef t=m.get V.undef t:=fun t h=>d t (by unfold lp;rw[h];simp)
 have l:a.get V.undef t=m.get V.undef t:=d t (by unfold lp;rw[vO.2 b];rfl);refine⟨t,o,g,f,n,b,(uI e).symm.trans i,c,?_,l.symm.trans k⟩;rw[←sS (xP c) e];exact j
theorem sk.lt{id:Nat}(h:sk N T ol Y m id)(a:kY N T ol B Y m c p):id<c.next:=by
 obtain⟨t,o,g,b,l,d,f,i,j,k⟩:=h;obtain⟨n,e,a⟩:=a
 grind [mk_inj]
theorem RN{φ:aG}{w:World}(a:List Info):∀(F:Fr) (H:af) (j:Fr) (d:af) (D:Oper→Prop),
 (∀u∈a,u.s=stepOf N T ol u.o∧qx (cop N T u.o.op)=false∧∃t,u.o.dst=some t∧reads ol u.o t=false)→
 (∀x u,D x→u∈a→∀t,u.o.dst=some t→lp ol x t=false)→
 a.Pairwise (fun u1 u2=>∀t,u2.o.dst=some t→lp ol u1.o t=false)→
 Rel φ H w→B≤H.next→(∀x,D x→kY N T ol B x F H φ)→Ao N T ol D F→sZ cf (lmap (fun i=>c6.ex i.s) a) F H=some (j,d)→
 Rel φ d w∧(∀x,D x→kY N T ol B x j d φ)∧(∀u∈a,kY N T ol B u.o j d φ)∧(∀t,(∀u∈a,u.o.dst≠some t)→j.get V.undef t=F.get V.undef t)∧H.next≤d.next∧(∀b,b<H.next→d.get b=H.get b)∧
 Ao N T ol (fun x=>D x∨∃u∈a,x=u.o) j:=by
 induction a with
 |nil=>
  intro F H j d D _ _ _ G _ J P h;cases h;simp_all
 |cons u a ih=>
  intro F H j d D R hx Q G hB J P h;obtain⟨⟨p,q⟩,O,h2⟩:=av.1 (show an (exec cf u.s F H) (fun r=>sZ cf (lmap (fun i=>c6.ex i.s) a) r.1 r.2)=some (j,d)from h);obtain⟨k,hE,t,K,ap⟩:=R u aE;rw[k]at O;obtain⟨p1,W,L,a2⟩:=kY.first (B:=B) K hE ap (φ:=φ) (fun b M=>(G.top M).1) hB O
  have am:Rel φ q w:=by
   rcases L with rfl|⟨m,rfl⟩
   ·exact G
   ·exact QX G
  have ba:H.next≤q.next:=by
   rcases L with rfl|⟨m,rfl⟩
   ·exact aF _
   ·show H.next≤H.next+1;omega
  have a':∀b,b<H.next→q.get b=H.get b:=by
   intro b M;rcases L with rfl|⟨m,rfl⟩
   ·rfl
   ·rw[af.aY,aj aa]
  have E:∀x,D x→∀f,lp ol x f=true→p.get V.undef f=F.get V.undef f:=by
   intro x c f k;refine W f (fun e=>?_);have:=hx x u c aE t K;rw[e,this]at k;cases k
  have ad:∀x,(D x∨x=u.o)→kY N T ol B x p q φ:=by
   rintro x (c|rfl)
   ·refine(J x c).keep (E x c) (fun id m A I C=>⟨by grind,I,aa⟩) (fun X g v A I C _=>?_);rcases L with rfl|⟨m,rfl⟩
    ·exact C
    ·exact ao7 A G.aiV C
   ·exact p1
  have bb:∀id,sk N T ol u.o p id→H.next≤id:=by
   intro id ⟨t',X,g,m,sh,A,I,C,Y,Z⟩;rw[K]at A;cases A;have:=a2 X g m sh I C Y;rw[Z]at this;exact Nat.le_of_eq (mk_inj this).symm
  have al:Ao N T ol (fun x=>D x∨x=u.o) p:=by
   rintro x y (c|rfl) (n|rfl) id S U
   ·exact P x y c n id (S.congr (E x c)) (U.congr (E y n))
   ·have:=(S.congr (E x c)).lt (J x c)
    grind
   ·have:=(U.congr (E y n)).lt (J y n)
    grind
   ·rfl
  obtain⟨q1,a4,bc,a5,bd,be,a6⟩:=ih p q j d (fun x=>D x∨x=u.o) (fun v l=>R v (by simp[l])) (fun x v aw l f k=>by
   rcases aw with h|rfl
   ·grind
   ·exact(tA.1 Q).1 v l f k) (tA.1 Q).2 am aa ad al h2
  refine⟨q1,fun x h=>a4 x (.inl h),fun v l=>?_,fun f k=>?_,aa,fun b M=>by grind,?_⟩
  ·grind
  ·rw[a5 f (fun v l=>k v (by simp[l])),W f (fun e=>k u aE (by rw[e];exact K))]
  ·intro x y c n;have conv:∀z,(D z∨∃v∈u::a,z=v.o)→((D z∨z=u.o)∨∃v∈a,z=v.o):=by
    rintro z (h|⟨v,l,rfl⟩)
    ·exact .inl (.inl h)
    ·grind
   exact a6 x y (conv x c) (conv y n)
theorem NI{e:aG}{a:af}{w:World}(h:Ext p c q e I w)(o:Rel e a w)(hn:I.next≤a.next)(g:∀b,b<I.next→a.get b=I.get b):Ext p c q e a w:=
 ⟨o,h.le,h.fresh,fun d m n=>by rw[g _ (eF d h.next)];exact h.nX d m n,cH h.next hn,h.lY,h.size,h.same,fun{b l} f i=>let⟨j,k⟩:=h.jN f i;⟨by rw[g b (tF fun d=>by have:=h.le b l f;rw[(h.rel.top d).1]at this;cases this)];exact j,k⟩,h.nk⟩
theorem ag2{j:aG}{w o:World}(d:Ext p c q j I w)(u:I.get a=.cells b 0)(n:j a=none)(v:a<I.next)(t:c.next≤a)(g:tG j (.cells b 0) h w o):
 Ext p c q (j.add a ⟨w.heap.size,0,h⟩) I o:=by
 refine⟨QW d.rel u n v g,aG.le_trans d.le (aG.vC n),?_,d.nX,d.next,?_,by rw[g.size];have:=d.size;omega,d.same.trans g.same,fun{a l} i f=>let⟨r,s⟩:=d.jN i f;⟨r,(g.old l.c (d.rel.loc (d.le a l i))).trans s⟩,fun k x e=>d.nk k x e⟩
 ·intro x l i f;rw[aG.add_get]at f;split at f
  ·rename_i e;subst e;cases f;exact⟨t,.inl d.size⟩
  ·exact d.fresh i f
 ·intro k m y;rw[g.old k (eF m d.size)];exact d.lY m y
end
theorem vE(b:f→Bool)(l:List f):kL b l=l.filter b:=by
 induction l with
 |nil=>rfl
 |cons a l c=>
  have e:kL b (a::l)=Bool.casesOn (motive:=fun _=>List f) (b a) (kL b l) (a::kL b l):=rfl;rw[e,c];cases h:b a<;>simp[h]
section
variable {N:eT}{T:cc}
def mkInfo(N:eT)(T:cc)(a:List Oper)(i:Nat)(o:Oper):Info:=⟨i,o,maskAt a i,stepOf N T a o,qx (cop N T o.op)⟩
theorem ai'{a:List Oper}:∀(l:List Oper) (ms:List Nat) (k i:Nat),(infos N T a l ms k)[i]? =(l[i]?).map (fun o=>⟨k+i,o,(ms[i]?).getD 0,stepOf N T a o,qx (cop N T o.op)⟩):=by
 intro l;induction l with
 |nil=>intro ms k i;rfl
 |cons o l b=>
  intro ms k i;have e:infos N T a (o::l) ms k=⟨k,o,rI 0 ms 0,stepOf N T a o,qx (cop N T o.op)⟩::infos N T a l (ej ms 1) (k+1):=rfl
  grind [BZ,List.getElem?_cons_succ,kj]
def dS(N:eT)(T:cc)(a:List Oper):List Info:=infos N T a a (masks a []) 0
theorem AB(a:List Oper)(i:Nat):(dS N T a)[i]? =(a[i]?).map (mkInfo N T a i):=by
 unfold dS;rw[ai'];congr 1;funext o;simp[mkInfo,maskAt,BZ]
theorem qk{a:List Oper}{x:Info}:x∈dS N T a↔∃i o,a[i]? =some o∧x=mkInfo N T a i o:=by
 rw[List.mem_iff_getElem?];constructor
 ·grind [AB]
 ·rintro⟨i,o,b,rfl⟩;exact⟨i,by rw[AB,b];rfl⟩
theorem IZ(c:List Oper):(dS N T c).Pairwise (fun a b=>a.ix<b.ix):=by
 rw[List.pairwise_iff_getElem];intro i j hi k h;have d:=AB (N:=N) (T:=T) c i;have e:=AB (N:=N) (T:=T) c j;rw[cx hi]at d;rw[cx k]at e;obtain⟨l,_,f⟩:=Option.map_eq_some_iff.1 d.symm;obtain⟨m,_,g⟩:=Option.map_eq_some_iff.1 e.symm;rw[←f,←g];exact h
theorem sq{a:List Oper}{x y:Info}(b:x∈dS N T a)(c:y∈dS N T a)(h:x.ix=y.ix):x=y:=by
 obtain⟨i,o,d,rfl⟩:=qk.1 b;obtain⟨j,g,f,rfl⟩:=qk.1 c;have e:i=j:=h
 grind
theorem Uo{d:List Oper}(j:mE d 0=true):∀ {l:List Info},(∀x∈l,x.mask=maskAt d x.ix)→AO l=true→l.Pairwise (fun a b=>Pred d b.ix a.ix):=by
 intro l;induction l with
 |nil=>intro _ _;exact .nil
 |cons a l m=>
  intro g h;have e:and (AO l) (List.casesOn (motive:=fun _=>Bool) l true (fun b _=>iS b.mask a.ix))=true:=h;rw[cC]at e;have i:=m (fun x k=>g x (by simp[k])) e.1;refine tA.2 ⟨?_,i⟩;cases l with
  |nil=>simp
  |cons b l=>
   have f:Pred d b.ix a.ix:=by
    unfold Pred;rw[←g b aE];exact e.2
   intro c hc;rcases jr.1 hc with rfl|hc
   ·exact f
   ·exact GW j ((tA.1 i).1 c hc) f
theorem UT(a:List Info)(m:Nat):nc a m=(a.filter (fun e=>iS m e.ix)).length:=by
 induction a with
 |nil=>rfl
 |cons e a c=>
  have h:nc (e::a) m=Bool.casesOn (motive:=fun _=>Nat) (iS m e.ix) (nc a m) (Nat.succ (nc a m)):=rfl;rw[h,c];cases b:iS m e.ix<;>simp[b]
def ri(a:List Oper)(x:Info)(r:List Info):Prop:=∀e∈r,¬Pred a x.ix e.ix
theorem HP{c:List Oper}(j:mE c 0=true){done r:List Info}(k:(done++r).Pairwise (fun a b=>Pred c b.ix a.ix)){x:Info}(l:x.mask=maskAt c x.ix):nc (done++r) x.mask≤done.length↔ri c x r:=by
 rw[UT,l,List.filter_append,aV];constructor
 ·intro h e f g;have i:done.filter (fun e=>iS (maskAt c x.ix) e.ix)=done:=by
   rw[List.filter_eq_self];intro d i;exact GW j g ((wD.1 k).2.2 d i e f)
  rw[i]at h;have:0<(r.filter (fun e=>iS (maskAt c x.ix) e.ix)).length:=List.length_pos_of_mem (p9.2 ⟨f,g⟩);omega
 ·intro h;have m:r.filter (fun e=>iS (maskAt c x.ix) e.ix)=[]:=by
   rw[List.filter_eq_nil_iff];intro e f g;exact h e f g
  grind
theorem qQ{a:List Oper}(h:s_ a (dS N T a)=true){k:Info}(c:k∈dS N T a):
 (k.o.dst=none→k.gN=true)∧∀t,k.o.dst=some t→(k.gN=true∨reads a k.o t=false)∧∀i∈dS N T a,i.ix=k.ix∨lp a i.o t=false∨Pred a i.ix k.ix∨(k.gN=true∧Pred a k.ix i.ix):=by
 have b:=uc.1 h k c;have e:∀i∈dS N T a,i.mask=maskAt a i.ix:=by
  intro i hi;obtain⟨j,f,_,rfl⟩:=qk.1 hi;rfl
 constructor
 ·grind
 ·intro t d;rw[d]at b;simp only[cC,tq,Bool.not_eq_true']at b;refine⟨b.1,fun i hi=>?_⟩;have h2:=uc.1 b.2 i hi;simp only[cC,tq,Bool.not_eq_true',beq_eq]at h2;rcases h2 with h2|h2|h2|h2
  ·exact .inl h2
  ·exact .inr (.inl h2)
  ·exact .inr (.inr (.inl (by unfold Pred;grind)))
  ·exact .inr (.inr (.inr ⟨h2.1,by unfold Pred;grind⟩))
end
section
variable {P:Program}{N:eT}{T:cc}{G:Nat}{cf:jS}{ops:Array Oper}
theorem ar0{a:Act}(g:∀o∈ops.toList,GC a.tmps.size o.dst=true)(o:Oper)(l:∀t,reads ops.toList o t=true→t<a.tmps.size→aL p (m.get V.undef t) (a.tmps.getD t undef))(i:mh ops.toList o.guard m=some n):
 Region.wanted o (yielded ops a.tmps)=n:=by
 refine Ss (φ:=p) o i (fun j b t f c=>?_);have q:reads ops.toList o t=true:=by
  unfold reads;rw[tq,f];exact .inr (by simp only[c];exact vO.2 rfl)
 obtain⟨k,d,h⟩:=av.1 (show an (cO ops.toList j) (fun o=>o.dst)=some t from c);rw[gO]at d;have e:=g k (eN d);rw[h]at e;have r:t<a.tmps.size:=(fB _ _).1 e
 grind
def iN(listed:Array Bool)(i:Nat):Prop:=listed.getD i false=true
def Out(N:eT)(T:cc)(ops:Array Oper)(r:List Info)(listed:Array Bool)(x:Info):Prop:=
 x∈dS N T ops.toList∧x.gN=false∧ri ops.toList x r∧¬iN listed x.ix
structure ob (N:eT) (T:cc) (G:Nat) (ops:Array Oper) (kz:aG) (H0:af) (w0:World) (done r:List Info) (F:Fr) (H:af) (listed:Array Bool) (a:Act) (w:World) (φ:aG):Prop where
 split:(dS N T ops.toList).filter (fun i=>i.gN)=done++r
 size:listed.size=ops.size
 closed:C' ops.toList (iN listed)
 gK:∀e∈done++r,(iN listed e.ix↔e∈done)
 ne:∀x∈dS N T ops.toList,x.gN=false→iN listed x.ix→ri ops.toList x r
 ext:Ext kz H0 w0 φ H w
 BC:lu G φ
 tmps:∀t,t<a.tmps.size→(∀x,Out N T ops r listed x→x.o.dst≠some t)→aL φ (F.get V.undef t) (a.tmps.getD t undef)
 zH:∀x,Out N T ops r listed x→kY N T ops.toList H0.next x.o F H φ
 Fi:Ao N T ops.toList (fun o=>∃x,Out N T ops r listed x∧o=x.o) F
variable{u:Nat}
theorem wF{listed:Array Bool}(hi:h<listed.size):iN (listed.setIfInBounds h true) u↔u=h∨iN listed u:=by
 unfold iN;by_cases a:h=u
 ·subst a;simp[hi]
 simp_all;omega
theorem wK{r:List Info}{listed:Array Bool}(hi:h<listed.size){x:Info}:Out N T ops r (listed.setIfInBounds h true) x↔Out N T ops r listed x∧x.ix≠h:=by
 unfold Out
 grind [wF]
variable {kz:aG}{H0:af}{w0:World}{done r:List Info}{F:Fr}{H:af}{listed:Array Bool}{a:Act}{w:World}{φ:aG}
theorem JK(e:Edge):Region.binds .any e=kG e:=by
 unfold Region.binds kG;cases e.ground<;>rfl
theorem QS(b:h∈Region.ready .any ops listed):∃o,ops[h]? =some o∧ops.toList[h]? =some o∧¬iN listed h∧h<listed.size∧∀e∈o.after.toList,kG e=true→iN listed e.on:=by
 obtain⟨g,o,a,c⟩:=mem_ready.1 b;have f:h<listed.size:=by
  rcases oe h listed.size with h'|h'
  ·exact h'
  ·grind
 refine⟨o,a,by simpa using a,?_,f,fun e d i=>?_⟩
 ·unfold iN
  grind
 ·exact c e (by simpa using d) (by grind [JK])
variable{Y:Oper}
theorem Ky(c:ob N T G ops kz H0 w0 done r F H listed a w φ)(i:ops.toList[h]? =some Y)(hi:h<listed.size)(k:∀e∈Y.after.toList,kG e=true→iN listed e.on):C' ops.toList (iN (listed.setIfInBounds h true)):=by
 intro j g hj f e d b;rw[wF hi]at hj⊢;rcases hj with rfl|hj
 ·grind
 ·exact .inr (c.closed j g hj f e d b)
theorem UI(b:ob N T G ops kz H0 w0 done r F H listed a w φ){c:Info}(D:Out N T ops r listed c)(B:c.o.dst=some u)(hi:c.ix<listed.size)
 (A:∀e∈c.o.after.toList,kG e=true→iN listed e.on) (t:Ext kz H0 w0 p H q) (l:φ.le p) (C:aL p (F.get V.undef u) x)
 (S:∀y,Out N T ops r listed y→y.ix≠c.ix→kY N T ops.toList H0.next y.o F H p):
 ob N T G ops kz H0 w0 done r F H (listed.setIfInBounds c.ix true) (a.put (some u) x) q p:=by
 obtain⟨n,U,W,X⟩:=D;obtain⟨i,Y,v,E⟩:=qk.1 n;have z:ops.toList[c.ix]? =some c.o:=by rw[E];exact v
 refine⟨b.split,by simp[b.size],Ky b z hi A,?_,?_,t,b.BC.mono l,?_,?_,?_⟩
 ·intro e d;rw[wF hi,←b.gK e d];constructor
  ·rintro(h|h)
   ·have Q:e∈dS N T ops.toList∧e.gN=true:=by
     rw[←b.split]at d;exact p9.1 d
    grind [sq]
   ·exact h
  ·exact .inr
 ·intro y g J hl;rw[wF hi]at hl;rcases hl with h|h
  ·grind [sq]
  ·exact b.ne y g J h
 ·intro s f R;rw[zM]at f;by_cases m:u=s
  ·subst m;simpa [Act.put,f]using C
  ·have:=b.tmps s f (fun y g I=>by
    by_cases K:y.ix=c.ix
    ·rw[sq g.1 n K,B]at I
     grind
    grind [wK])
   have:=this.mono l;simpa [Act.put,Array.getElem?_setIfInBounds_ne m]using this
 ·grind [wK]
 ·rintro Z o2 ⟨O,j,rfl⟩ ⟨P,k,rfl⟩ id L M;rw[wK hi]at j k;exact b.Fi _ _ ⟨O,j.1,rfl⟩ ⟨P,k.1,rfl⟩ id L M
end
section
variable {P:Program}{N:eT}{T:cc}{G:Nat}{cf:jS}{ops:Array Oper}{ro:Option Nat}{nn:Nat}
variable {kz:aG}{H0:af}{w0:World}{done r:List Info}{F:Fr}{H:af}{listed:Array Bool}{a:Act}{w:World}{φ:aG}
variable{u:Nat}
theorem QN(g:mE ops.toList 0=true)(l:s_ ops.toList (dS N T ops.toList)=true)(b:ob N T G ops kz H0 w0 done r F H listed a w φ){x:Info}(c:x∈dS N T ops.toList)
 (A:∀e∈x.o.after.toList,kG e=true→iN listed e.on) (B:reads ops.toList x.o u=true) (k:u<a.tmps.size):aL φ (F.get V.undef u) (a.tmps.getD u undef):=by
 refine b.tmps u k (fun y n t=>?_);obtain⟨p,q,C,s⟩:=n;obtain⟨d,f⟩:=(qQ l p).2 u t;have v:reads ops.toList y.o u=false:=d.resolve_left (by rw[q];simp);obtain⟨i,D,j,m⟩:=qk.1 c;rcases f x c with h|h|h|h
 ·grind [sq]
 ·unfold lp at h
  grind
 ·refine s (D8 g b.closed (fun E z=>?_) h);have:ops.toList[x.ix]? =some x.o:=by rw[m];exact j
  grind
 grind
theorem P8(l:mE ops.toList 0=true)(q:s_ ops.toList (dS N T ops.toList)=true)(n:∀c∈ops.toList,ny G a.tmps.size c=true)(d:ob N T G ops kz H0 w0 done r F H listed a w φ){x:Info}(k:x∈dS N T ops.toList)
 (p:∀e∈x.o.after.toList,kG e=true→iN listed e.on):jH φ F a.eval x.o.op.operands.toList∧(∀ {z:Bool},mh ops.toList x.o.guard F=some z→Region.wanted x.o (yielded ops a.tmps)=z):=by
 obtain⟨i,c,D,J⟩:=qk.1 k;have E:x.o∈ops.toList:=by rw[J];exact eN D
 have j:=n x.o E;unfold ny at j;rw[cC]at j;constructor
 ·intro y s f b;have m:=GI (uc.1 j.2 y s);cases y with
  |tmp t=>
   cases b;exact QN l q d k p (QO s) m
  |const v=>
   obtain⟨u,I,b⟩:=av.1 (show an (mU 20 v) (fun y=>some (fun _=>y))=some f from b);cases b;exact CS φ _ _ _ I
  |global g=>
   cases b;obtain⟨K,e⟩:=d.BC g m;exact .ptr e
  |func A=>cases b;exact .func A .nil .nil
 ·exact fun h=>ar0 (fun c h=>by have:=n c h;unfold ny at this;grind) x.o (fun t B C=>QN l q d k p B C) h
variable{Y:Oper}
theorem kY.add{c:List Oper}{B:Nat}{id:Nat}(b:kY N T c B Y F H φ)(u:∀a,sk N T c Y F a→a≠id):kY N T c B Y F H (φ.add id Q):=by
 obtain⟨t,k,b⟩:=b;refine⟨t,k,?_⟩;rcases b with h|⟨e,m,g,q,f,i,n⟩|h
 ·exact .inl h
 ·refine .inr (.inl ⟨e,m,g,q,f,i,?_⟩);rcases n with h|⟨d,l,a,rfl,j,o,p,r,s⟩
  ·exact .inl h
  ·refine .inr ⟨d,l,a,rfl,j,o,?_,r,s⟩;rw[aG.add_get];rw[aj (u a ⟨t,m,g,d,l,k,e,f,i,j⟩)];exact p
 ·exact .inr (.inr h)
theorem an6(b:mE ops.toList 0=true)(d:s_ ops.toList (dS N T ops.toList)=true){x y:Info}(g:x∈dS N T ops.toList)(i:y∈dS N T ops.toList)(m:x.gN=false)(n:y.gN=false)(j:y.o=x.o)(a:x.o.dst=some h):y.ix=x.ix:=by
 have c:y.o.dst=some h:=by rw[j];exact a
 have k:lp ops.toList x.o h=true:=by unfold lp;rw[vO.2 a];rfl
 have l:lp ops.toList y.o h=true:=by unfold lp;rw[vO.2 c];rfl
 rcases((qQ d g).2 h a).2 y i with e|e|e|e
 ·exact e
 ·rw[l]at e;cases e
 ·rcases((qQ d i).2 h c).2 x g with f|f|f|f
  ·exact f.symm
  ·rw[k]at f;cases f
  ·have:=pred_lt b e;have:=pred_lt b f;omega
  grind
 grind
variable{J:Exit→Act→World→Prop}
theorem anx(hT:cT P T)(b5:jV P N)(I:mE ops.toList 0=true)(Q:s_ ops.toList (dS N T ops.toList)=true)(ac:∀ar∈ops.toList,ny G a.tmps.size ar=true)
 (b:ob N T G ops kz H0 w0 done r F H listed a w φ) {x:Info} (k:Out N T ops r listed x) (ae:ops[x.ix]? =some x.o) (hi:x.ix<listed.size) (O:∀e∈x.o.after.toList,kG e=true→iN listed e.on) {K:Act→World→Prop}
 (Y:∀s i h,ob N T G ops kz H0 w0 done r F H (listed.setIfInBounds x.ix true) s i h→s.tmps.size=a.tmps.size→s.defers=a.defers→K s i):wpOpIn (fw ro) nn P ops J x.ix K a w:=by
 obtain⟨L,D⟩:=P8 I Q ac b k.1 O;have am:∀f,a.eval (.func f)=.func (.func f) #[] #[]:=fun f=>rfl
 obtain⟨t,z,hp⟩:=b.zH x k;have u:∀ {h:aG}{i:World}{m:Value},Ext kz H0 w0 h H i→φ.le h→aL h (F.get V.undef t) m→(∀y,Out N T ops r listed y→y.ix≠x.ix→kY N T ops.toList H0.next y.o F H h)→K (a.put x.o.dst m) i:=by
  intro h i m d c j A;rw[z];exact Y _ _ h (UI b k z hi O d c j A) (zM _ _ _) (put_defers _ _ _)
 have C:∀y,Out N T ops r listed y→y.ix≠x.ix→kY N T ops.toList H0.next y.o F H φ:=fun y l _=>b.zH y l
 unfold wpOpIn;simp only[ae];rcases hp with⟨d,c⟩|⟨d,R,g,q,c,j,A⟩|⟨d,R,g,c,j⟩
 ·rw[D d];simp only[iM,if_false];refine⟨fun _ _=>trivial,?_⟩;exact u b.ext (aG.le_refl _) (by rw[c];exact .aA .nil) C
 ·rw[D d];simp only[if_true];refine⟨fun _ _=>trivial,?_⟩;rw[Oper.semAt_eq _ _ _ (vL (N:=N) (T:=T) (by rw[c];simp))];have M:=Qm hT b5 am x.o c L j w;rcases A with⟨v,rfl,B⟩|⟨S,sh,id,rfl,B,U,E,W,X⟩
  ·obtain⟨m,n,p⟩:=M;rw[n];exact u b.ext (aG.le_refl _) (by rw[B];exact p) C
  ·obtain⟨m,i,a1,n,p,a0⟩:=M;rw[n];refine u (ag2 b.ext U E W X p) (aG.vC E) (by grind [aG.tJ]) (fun y l al=>?_);refine(b.zH y l).add (fun ap hn Z=>al ?_);subst Z;exact an6 I Q k.1 l.1 k.2.1 l.2.1 (b.Fi _ _ ⟨y,l,rfl⟩ ⟨x,k,rfl⟩ ap hn ⟨t,R,g,S,sh,z,d,c,j,B⟩) z
 ·rw[D d];simp only[if_true];refine⟨fun _ _=>trivial,?_⟩;rw[Oper.semAt_eq _ _ _ (vL (N:=N) (T:=T) (by rw[c];simp))];obtain⟨m,n,p⟩:=QJ hT b.ext.rel x.o c L j;rw[n];exact u b.ext (aG.le_refl _) p C
end
end Go.au
