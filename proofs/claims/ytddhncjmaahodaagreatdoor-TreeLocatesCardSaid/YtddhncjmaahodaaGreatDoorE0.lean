/- Towards the law TreeLocates: lemmas on the evaluator of the model's code, plain laws of numbers, walks of the program's functions, the card. No conditions. -/
import Derived.Calls
import Derived.Orders
import Derived.Laws.Cells
import Derived.Laws.IdiomCopy
import Derived.Laws.Strings
import Derived.Laws.Concat
import Derived.Laws.World
import Derived.Laws.NewBlocks
import Derived.Laws.IdiomStrings
import Derived.KernelRfl
import Derived.Lib.Bytealg
import Derived.Laws.StructEq
import Derived.Laws.NewFold
import Derived.OrdersIn
import Derived.RangeFuncLeaves
set_option linter.all false
noncomputable section
open Array renaming ext'→tw,getElem?_eq_some_iff→wz,getElem?_push→wA
open Bool renaming and_eq_true→cu,eq_false_iff→mY,false_eq_true→ie,not_false→iY,not_true→gG,or_eq_true→r3
open Classical renaming byContradiction→oa
open Go.Instr renaming sliceBounds→r7,sureAddr→wE
open Go.IntKind renaming bits→p4,signed→p5,wrap→r8
open Go.Result renaming andThen_ok→dV
open Go.Sem renaming run_bind→cU,run_pure→fO
open Int renaming natCast_mul→fU,natCast_nonneg→uR,tdiv→mg,tmod→m3,toNat_natCast→bJ
open List renaming append_assoc→eJ,drop_left→uS,eq_nil_of_length_eq_zero→oT,ext_getElem?→si,getElem?_append_left→lJ,getElem?_append_right→q4,getElem?_drop→q5,getElem?_eq_getElem→cn,getElem?_eq_none→kO,getElem?_eq_some_iff→fN,getElem?_set→oU,getElem?_take_of_lt→wH,length_append→aS,length_cons→cL,length_drop→gZ,length_map→g5,length_nil→kP,length_take→dD,mem_cons→g7,mem_filter→oV,mem_of_getElem?→eT,pairwise_append→wK,pairwise_cons→tD,range'→tE,range→oW,take_left→p_,take_succ_eq_append_getElem→kQ
open Nat renaming add_assoc→jl,add_comm→i_,add_mul→cF,add_zero→cE,add→gv,beq_refl→sn,beq→bn,ble→bM,eq_zero_or_pos→so,le_add_right→sq,le_of_ble_eq_true→mh,le_of_lt→g8,le_of_not_lt→jC,le_refl→aE,le_trans→cy,lt_of_lt_of_le→eG,lt_of_not_le→tI,lt_or_ge→mj,lt_trans→qe,min_eq_left→m5,mod_eq_of_lt→jV,mod_lt→eU,mul_assoc→bT,mul_le_mul_right→dn,mul→dQ,not_lt_zero→ke,strongRecOn→jD,sub_self→m6,sub→ja,succ_mul→oe,zero_add→dK,zero_le→bQ,zero_mul→jb
open Option renaming none→aM
open UInt8 renaming ofNat→gJ,toNat_inj→wT
namespace Go
theorem aa{p:Prop}(h:p:=by omega):p:=h
theorem ag{p:Prop}(h:p:=by decide):p:=h
theorem aB{p:Prop}(h:p:=by simp):p:=h
theorem aZ{p:Prop}[Decidable p](h:¬p):decide p=false:=decide_eq_false h
theorem bk{p:Prop}[Decidable p](h:p):decide p=true:=decide_eq_true h
theorem aj{c:Prop}{h:Decidable c}(n:¬c){a:Sort _}{t e:a}:ite c t e=e:=if_neg n
theorem ak{c:Prop}{h:Decidable c}(n:c){a:Sort _}{t e:a}:ite c t e=t:=if_pos n
end Go
namespace Go.au
inductive aO (α:Type) where
 |nil
 |node (l:aO α) (v:α) (r:aO α)
def G9(f:Nat):Nat→List Bool:=
 Nat.rec (motive:=fun _=>Nat→List Bool) (fun _=>[]) (fun _ a n=>Nat.rec (motive:=fun _=>List Bool) [] (fun m _=>(bn (Nat.mod m 2) 1)::a (Nat.div m 2)) n) f
def path(n:Nat):List Bool:=G9 n n
def Iq:List Bool→Nat
 |[]=>0
 |b::p=>2*Iq p+(if b then 1 else 0)+1
theorem Sl(f:Nat):∀n,n≤f→Iq (G9 f n)=n:=by
 induction f with
 |zero=>intro n h;have:n=0:=aa;subst this;rfl
 |succ f a=>
  intro n h;cases n with
  |zero=>rfl
  |succ m=>
   show 2*Iq (G9 f (m/2))+(if bn (m%2) 1 then 1 else 0)+1=m+1;rw[a (m/2) aa];rcases Nat.mod_two_eq_zero_or_one m with h|h<;>simp[h,bn]<;>omega
variable{h:Nat}
theorem an8{a:Nat}(b:path a=path h):a=h:=by
 have c:=Sl a a (aE _);have d:=Sl h h (aE _);unfold path at b;rw[←c,←d,b]
variable{f:Type}
def aO.lS(d:f)(p:List Bool):aO f→f:=
 List.rec (motive:=fun _=>aO f→f) (fun t=>aO.casesOn t d (fun _ v _=>v))
  (fun b _ a t=>aO.casesOn t d (fun l _ r=>Bool.casesOn b (a l) (a r))) p
def aO.x_(d x:f)(p:List Bool):aO f→aO f:=
 List.rec (motive:=fun _=>aO f→aO f) (fun t=>aO.casesOn t (.node .nil x .nil) (fun l _ r=>.node l x r))
  (fun b _ a t=>aO.casesOn t (Bool.casesOn b (.node (a .nil) d .nil) (.node .nil d (a .nil)))
    (fun l v r=>Bool.casesOn b (.node (a l) v r) (.node l v (a r)))) p
theorem aO.xD(d:f)(p:List Bool):aO.lS d p .nil=d:=by cases p<;>rfl
theorem aO.ahJ(d x:f)(p:List Bool):∀t,aO.lS d p (aO.x_ d x p t)=x:=by
 induction p with
 |nil=>intro t;cases t<;>rfl
 |cons b p a=>intro t;cases t<;>cases b<;>exact a _
theorem aO.ahK(d x:f)(p:List Bool):∀(q:List Bool) t,q≠p→aO.lS d q (aO.x_ d x p t)=aO.lS d q t:=by
 induction p with
 |nil=>
  intro q t a;cases q with
  |nil=>exact absurd rfl a
  |cons b q=>
   cases t with
   |nil=>cases b<;>exact aO.xD d q
   |node l v r=>cases b<;>rfl
 |cons c p e=>
  intro q t a;cases q with
  |nil=>cases t<;>cases c<;>rfl
  |cons b q=>
   cases t with
   |nil=>
    cases b<;>cases c
    ·exact(e q .nil (fun h=>a (by rw[h]))).trans (aO.xD d q)
    ·exact aO.xD d q
    ·exact aO.xD d q
    ·exact(e q .nil (fun h=>a (by rw[h]))).trans (aO.xD d q)
   |node l v r=>
    cases b<;>cases c
    ·exact e q l (fun h=>a (by rw[h]))
    ·rfl
    ·rfl
    ·exact e q r (fun h=>a (by rw[h]))
def aO.get(d:f)(t:aO f)(n:Nat):f:=aO.lS d (path n) t
def aO.set(d:f)(t:aO f)(n:Nat)(x:f):aO f:=aO.x_ d x (path n) t
theorem aO.get_nil(d:f)(n:Nat):aO.get d .nil n=d:=aO.xD d _
theorem aO.aK(d:f)(t:aO f)(i j:Nat)(x:f):(t.set d i x).get d j=if i=j then x else t.get d j:=by
 unfold aO.get aO.set;split
 ·rename_i h;subst h;exact aO.ahJ d x _ t
 ·rename_i h;exact aO.ahK d x _ _ t (fun e=>h (an8 e).symm)
inductive Cap where
 |known (n:Nat)
 |grown (sz:Nat)
 |nw
 |least (n:Nat)
inductive V where
 |bool (b:Bool)
 |int (k:IntKind) (n:Int)
 |str (s:List UInt8)
 |ptr (b o:Nat)
 |iW
 |slice (b o len:Nat) (cap:Cap)
 |an
 |emp
 |map (b:Nat)
 |j3
 |func (f:FuncId) (first captured:List V)
 |kJ
 |kK
 |agg (cs:List V)
 |az (vs:List V)
 |any
 |cell
 |row (n:Nat) (cs:List V)
 |cY (cs:List V) (k:Nat)
 |gM
abbrev V.undef:V:=.az []
abbrev Fr:=aO V
inductive oh where
 |map (es:List (V×V))
 |iter (m since:Nat) (left:List Nat) (cur:Option Nat) (last:Nat)
 |ro (x:Obj)
inductive cP where
 |none
 |cells (cs:List V) (g:Nat)
 |bB (leaf floor:Nat)
 |ck (o:oh)
structure af where
 m:aO cP
 next:Nat
def rK(d:f)(l:List f):Nat→f:=
 List.rec (motive:=fun _=>Nat→f) (fun _=>d) (fun v _ a n=>Nat.rec (motive:=fun _=>f) v (fun m _=>a m) n) l
def cK(l:List f):Nat→Option f:=
 List.rec (motive:=fun _=>Nat→Option f) (fun _=>aM) (fun v _ a n=>Nat.rec (motive:=fun _=>Option f) (some v) (fun m _=>a m) n) l
def cr(l:List f):Nat:=List.rec (motive:=fun _=>Nat) 0 (fun _ _ a=>Nat.succ a) l
def eC(l:List f):Nat→List f:=
 List.rec (motive:=fun _=>Nat→List f) (fun _=>[]) (fun v l a n=>Nat.rec (motive:=fun _=>List f) (v::l) (fun m _=>a m) n) l
def cq(l:List f):Nat→Option (List f):=
 List.rec (motive:=fun _=>Nat→Option (List f)) (fun n=>Nat.rec (motive:=fun _=>Option (List f)) (some []) (fun _ _=>aM) n)
  (fun v _ a n=>Nat.rec (motive:=fun _=>Option (List f)) (some []) (fun m _=>Option.casesOn (motive:=fun _=>Option (List f)) (a m) aM (fun r=>some (v::r))) n) l
def nr(b:List f):List f→Option (List f):=
 List.rec (motive:=fun _=>List f→Option (List f)) (fun l=>some l)
  (fun x _ a l=>List.casesOn (motive:=fun _=>Option (List f)) l aM (fun _ l=>Option.casesOn (motive:=fun _=>Option (List f)) (a l) aM (fun r=>some (x::r)))) b
def cC(a:List f)(l:List f):Nat→Option (List f):=
 List.rec (motive:=fun _=>Nat→Option (List f)) (fun n=>Nat.rec (motive:=fun _=>Option (List f)) (nr a []) (fun _ _=>aM) n)
  (fun v l b n=>Nat.rec (motive:=fun _=>Option (List f)) (nr a (v::l)) (fun m _=>Option.casesOn (motive:=fun _=>Option (List f)) (b m) aM (fun r=>some (v::r))) n) l
def ao{a:Type}(x:Option f)(b:f→Option a):Option a:=
 Option.casesOn (motive:=fun _=>Option a) x aM b
def aQ(b:Bool)(x:Option f):Option f:=
 Bool.casesOn (motive:=fun _=>Option f) b aM x
def af.get(H:af)(b:Nat):cP:=H.m.get .none b
def af.set(H:af)(b:Nat)(o:cP):af:=⟨H.m.set .none b o,H.next⟩
def af.push(H:af)(o:cP):af:=⟨H.m.set .none H.next o,Nat.succ H.next⟩
def af.fR(H:af)(b g:Nat):Bool:=
 Nat.rec (motive:=fun _=>Bool) true (fun _ _=>cP.casesOn (motive:=fun _=>Bool) (H.get g) false (fun _ _=>false) (fun _ a=>bM a b) (fun _=>false)) g
def af.cells?(H:af)(b:Nat):Option (List V):=
 cP.casesOn (motive:=fun _=>Option (List V)) (H.get b) aM (fun a g=>aQ (H.fR b g) (some a)) (fun _ _=>aM) (fun _=>aM)
def af.load(H:af)(b o:Nat):Option V:=ao (H.cells? b) fun a=>cK a o
def af.cS(H:af)(b o n:Nat):Option (List V):=ao (H.cells? b) fun a=>cq (eC a o) n
def V.one(v:V):Bool:=match v with
 |.agg _=>false
 |.az _=>false
 |.any=>false
 |_=>true
def cG(l:List V):Bool:=List.rec (motive:=fun _=>Bool) true (fun v _ a=>and v.one a) l
def af.e5(H:af)(b o:Nat)(c:List V):Option af:=
 cP.casesOn (motive:=fun _=>Option af) (H.get b) aM
  (fun d g=>aQ (cG c)<|ao (cC c d o) fun a=>
    Nat.rec (motive:=fun _=>Option af) (some (H.set b (.cells a 0)))
     (fun _ _=>cP.casesOn (motive:=fun _=>Option af) (H.get g) aM (fun _ _=>aM)
       (fun e _=>aQ (bn e b) (some ((H.set b (.cells a g)).set g (.bB b b)))) (fun _=>aM)) g)
  (fun _ _=>aM) (fun _=>aM)
def fQ(c:f→f→Bool)(l:List f):List f→Bool:=
 List.rec (motive:=fun _=>List f→Bool) (fun m=>List.casesOn (motive:=fun _=>Bool) m true (fun _ _=>false))
  (fun a _ d m=>List.casesOn (motive:=fun _=>Bool) m false (fun b m=>and (c a b) (d m))) l
def g_(a b:IntKind):Bool:=match a,b with
 |.i8,.i8|.i16,.i16|.i32,.i32|.i64,.i64|.u8,.u8|.u16,.u16|.u32,.u32|.u64,.u64=>true
 |_,_=>false
def mH(a b:Int):Bool:=match a,b with
 |.ofNat a,.ofNat b=>bn a b
 |.negSucc a,.negSucc b=>bn a b
 |_,_=>false
def lA(a b:Int):Bool:=match a,b with
 |.ofNat a,.ofNat b=>bM (Nat.succ a) b
 |.ofNat _,.negSucc _=>false
 |.negSucc _,.ofNat _=>true
 |.negSucc a,.negSucc b=>bM (Nat.succ b) a
def n7(a b:UInt8):Bool:=bn a.toNat b.toNat
def Eb(a b:Cap):Bool:=match a,b with
 |.known a,.known b=>bn a b
 |.grown a,.grown b=>bn a b
 |.nw,.nw=>true
 |.least a,.least b=>bn a b
 |_,_=>false
def rX(n:Nat):V→V→Bool:=
 Nat.rec (motive:=fun _=>V→V→Bool) (fun _ _=>false) (fun _ c a b=>
  match a with
  |.bool x=>(match b with|.bool y=>Bool.casesOn (motive:=fun _=>Bool) x (!y) y|_=>false)
  |.int k x=>(match b with|.int l y=>and (g_ k l) (mH x y)|_=>false)
  |.str x=>(match b with|.str y=>fQ n7 x y|_=>false)
  |.ptr x y=>(match b with|.ptr z t=>and (bn x z) (bn y t)|_=>false)
  |.iW=>(match b with|.iW=>true|_=>false)
  |.slice p q r s=>(match b with|.slice x y z t=>and (and (bn p x) (bn q y)) (and (bn r z) (Eb s t))|_=>false)
  |.an=>(match b with|.an=>true|_=>false)
  |.emp=>(match b with|.emp=>true|_=>false)
  |.map x=>(match b with|.map y=>bn x y|_=>false)
  |.j3=>(match b with|.j3=>true|_=>false)
  |.func f x y=>(match b with|.func g z t=>and (bn f g) (and (fQ c x z) (fQ c y t))|_=>false)
  |.kJ=>(match b with|.kJ=>true|_=>false)
  |.kK=>(match b with|.kK=>true|_=>false)
  |.agg x=>(match b with|.agg y=>fQ c x y|_=>false)
  |.az x=>(match b with|.az y=>fQ c x y|_=>false)
  |.any=>false
  |.cell=>false
  |.row x y=>(match b with|.row z t=>and (bn x z) (fQ c y t)|_=>false)
  |.cY x y=>(match b with|.cY z t=>and (fQ c x z) (bn y t)|_=>false)
  |.gM=>(match b with|.gM=>true|_=>false)) n
def uJ(f:Value→Option V)(l:List Value):Option (List V):=
 List.rec (motive:=fun _=>Option (List V)) (some []) (fun v _ a=>ao (f v) fun x=>ao a fun r=>some (x::r)) l
def mU(n:Nat):Value→Option V:=
 Nat.rec (motive:=fun _=>Value→Option V) (fun _=>aM) (fun _ c v=>
  match v with
  |.bool b=>some (.bool b)
  |.int k n=>some (.int k n)
  |.string s=>some (.str s.data.toList)
  |.pointer aM=>some .iW
  |.slice aM 0 0=>some .an
  |.map aM=>some .j3
  |.nilFunc=>some .kJ
  |.nilIface=>some .kK
  |.agg a=>ao (uJ c a.toList) fun r=>some (.agg r)
  |.tuple a=>ao (uJ c a.toList) fun r=>some (.az r)
  |_=>aM) n
structure cg where
 m:aO (Option TypeInfo)
def cg.info(T:cg)(t:TypeId):Option TypeInfo:=T.m.get aM t
def cg.bq(T:cg)(t:TypeId):Option TypeDesc:=
 ao (T.info t) fun i=>match i.desc with
  |.named _ u=>ao (T.info u) fun j=>some j.desc
  |d=>some d
def cg.isAgg(T:cg)(t:TypeId):Option Bool:=ao (T.bq t) fun d=>match d with
 |.struct _=>some true
 |.array _ _=>some true
 |_=>some false
inductive Shape where
 |ptr|slice (len cap:Nat)|bytes (len:Nat)|map|least (len:Nat)
inductive aY where
 |val (v:V)
 |new (cs:List V) (s:Shape)
def Shape.mk(s:Shape)(b:Nat):V:=match s with
 |.ptr=>.ptr b 0
 |.slice l c=>.slice b 0 l (.known c)
 |.bytes l=>.slice b 0 l .nw
 |.map=>.map b
 |.least l=>.slice b 0 l (.least l)
inductive o3 where
 |fn (f:FuncId)
inductive bP where
 |bad
 |pu (xs:List (Fr→V)) (g:List V→Option aY)
 |rd (xs:List (Fr→V)) (g:List V→af→Option V)
 |gB (xs:List (Fr→V)) (g:List V→af→Option (V×af))
 |call (xs:List (Fr→V)) (g:List V→Option (o3×List V))
 |mN (x:Fr→V)
def hD(x:Operand):Option (Fr→V):=match x with
 |.tmp t=>some (fun F=>aO.lS V.undef (path t) F)
 |.const v=>ao (mU 20 v) fun y=>some (fun _=>y)
 |.global g=>some (fun _=>.ptr g 0)
 |.func f=>some (fun _=>.func f [] [])
def iE(l:List Operand):Option (List (Fr→V)):=
 List.rec (motive:=fun _=>Option (List (Fr→V))) (some []) (fun x _ a=>ao (hD x) fun f=>ao a fun r=>some (f::r)) l
def dM:IntKind→Nat
 |.i8|.u8=>256|.i16|.u16=>65536|.i32|.u32=>4294967296|.i64|.u64=>18446744073709551616
def gK:IntKind→Nat
 |.i8|.u8=>8|.i16|.u16=>16|.i32|.u32=>32|.i64|.u64=>64
def pO:IntKind→Bool
 |.i8|.i16|.i32|.i64=>true
 |_=>false
def gQ(M:Nat)(x:Int):Nat:=match x with
 |.ofNat a=>Nat.mod a M
 |.negSucc a=>ja (ja M 1) (Nat.mod a M)
def nN(a:Bool)(M m:Nat):Int:=
 Bool.casesOn (motive:=fun _=>Int) (and a (bM M (dQ 2 m))) (.ofNat m) (.negSucc (ja (ja M 1) m))
def aC(k:IntKind)(x:Int):Int:=nN (pO k) (dM k) (gQ (dM k) x)
def iO(k:IntKind)(x:Int):Option aY:=some (.val (.int k x))
def iU(b:Bool):Option aY:=some (.val (.bool b))
def rR(x:Int)(n:Nat):Int:=match x with
 |.ofNat a=>.ofNat (Nat.div a (Nat.pow 2 n))
 |.negSucc a=>.negSucc (Nat.div a (Nat.pow 2 n))
def dU(a b:Nat):Nat:=Bool.casesOn (motive:=fun _=>Nat) (bM a b) b a
def BV(c:BinOp):Option (IntKind→Int→IntKind→Int→Option aY):=match c with
 |.add=>some fun k a l b=>aQ (g_ k l) (iO k (aC k (Int.add a b)))
 |.sub=>some fun k a l b=>aQ (g_ k l) (iO k (aC k (Int.sub a b)))
 |.mul=>some fun k a l b=>aQ (g_ k l) (iO k (aC k (Int.mul a b)))
 |.quo=>some fun k a l b=>aQ (and (g_ k l) (!(mH b (.ofNat 0)))) (iO k (aC k (mg a b)))
 |.rem=>some fun k a l b=>aQ (and (g_ k l) (!(mH b (.ofNat 0)))) (iO k (m3 a b))
 |.and=>some fun k a l b=>aQ (g_ k l) (iO k (nN (pO k) (dM k) (Nat.land (gQ (dM k) a) (gQ (dM k) b))))
 |.or=>some fun k a l b=>aQ (g_ k l) (iO k (nN (pO k) (dM k) (Nat.lor (gQ (dM k) a) (gQ (dM k) b))))
 |.shl=>some fun k a _ b=>(match b with
   |.ofNat y=>iO k (aC k (Int.mul a (.ofNat (Nat.pow 2 (dU y (gK k))))))
   |.negSucc _=>aM)
 |.shr=>some fun k a _ b=>(match b with
   |.ofNat y=>iO k (rR a (dU y (gK k)))
   |.negSucc _=>aM)
 |.eql=>some fun k a l b=>aQ (g_ k l) (iU (mH a b))
 |.neq=>some fun k a l b=>aQ (g_ k l) (iU (!(mH a b)))
 |.lss=>some fun k a l b=>aQ (g_ k l) (iU (lA a b))
 |.leq=>some fun k a l b=>aQ (g_ k l) (iU (!(lA b a)))
 |.gtr=>some fun k a l b=>aQ (g_ k l) (iU (lA b a))
 |.geq=>some fun k a l b=>aQ (g_ k l) (iU (!(lA a b)))
 |_=>aM
def cW(x y:List f):List f:=List.rec (motive:=fun _=>List f) y (fun a _ b=>a::b) x
def CV(a:BinOp):Option (List UInt8→List UInt8→Option aY):=match a with
 |.add=>some fun x y=>aQ (bM (gv (cr x) (cr y)) 9223372036854775807) (some (.val (.str (cW x y))))
 |.eql=>some fun x y=>iU (fQ n7 x y)
 |.neq=>some fun x y=>iU (!(fQ n7 x y))
 |_=>aM
def g9(f:IntKind→Int→IntKind→Int→Option aY)(l:List V):Option aY:=
 match l with
 |[a,b]=>(match a with
  |.int k x=>(match b with|.int c y=>f k x c y|_=>aM)
  |_=>aM)
 |_=>aM
def pQ(f:List UInt8→List UInt8→Option aY)(l:List V):Option aY:=
 match l with
 |[a,b]=>(match a with
  |.str x=>(match b with|.str y=>f x y|_=>aM)
  |_=>aM)
 |_=>aM
def FH(neg:Bool)(l:List V):Option aY:=
 match l with
 |[a,b]=>(match a with
  |.bool x=>(match b with|.bool y=>iU (xor neg (xor x (!y)))|_=>aM)
  |.row n _=>(match b with|.an=>Bool.casesOn (motive:=fun _=>Option aY) (bn n 0) (iU neg) aM|_=>aM)
  |.an=>(match b with|.an=>iU (!neg)|.slice .. =>iU neg|.emp=>iU neg|_=>aM)
  |.slice .. =>(match b with|.an=>iU neg|_=>aM)
  |.emp=>(match b with|.an=>iU neg|_=>aM)
  |_=>aM)
 |_=>aM
def xB(d:TypeDesc)(a:V):Bool:=match d with
 |.bool=>(match a with|.bool _=>true|_=>false)
 |.slice _=>(match a with|.slice .. =>true|.an=>true|.emp=>true|.row _ _=>true|_=>false)
 |_=>false
def ox(neg:Bool)(d:TypeDesc)(l:List V):Option aY:=match l with
 |a::r=>aQ (xB d a) (FH neg (a::r))
 |_=>aM
def w8(d:TypeDesc)(a b:V):Option Bool:=match d with
 |.int _=>(match a with|.int k x=>(match b with|.int l y=>aQ (g_ k l) (some (mH x y))|_=>aM)|_=>aM)
 |_=>aM
def m9(ds:List TypeDesc):List V→List V→Option Bool:=
 List.rec (motive:=fun _=>List V→List V→Option Bool) (fun a b=>List.casesOn (motive:=fun _=>Option Bool) a (List.casesOn (motive:=fun _=>Option Bool) b (some true) (fun _ _=>aM)) (fun _ _=>aM))
  (fun d _ c a b=>List.casesOn (motive:=fun _=>Option Bool) a aM (fun x a=>List.casesOn (motive:=fun _=>Option Bool) b aM (fun y b=>
    ao (w8 d x y) fun r=>ao (c a b) fun s=>some (and r s)))) ds
def vA(d:TypeDesc):Bool:=match d with
 |.int _=>true
 |_=>false
def z6(a:f)(n:Nat):List f:=Nat.rec (motive:=fun _=>List f) [] (fun _ b=>a::b) n
def wU(T:cg)(t:TypeId):Option (List TypeDesc):=
 ao (T.bq t) fun d=>match d with
  |.array n e=>ao (T.bq e) fun d=>aQ (vA d)<|ao (T.info e) fun i=>aQ (bn i.size 1) (some (z6 d n))
  |_=>aM
def u_(T:cg)(b:BinOp)(t:TypeId)(a:List (Fr→V)):bP:=
 match T.bq t with
 |some (.int _)=>(match BV b with|some f=>.pu a (g9 f)|aM=>.bad)
 |some .string=>(match CV b with|some f=>.pu a (pQ f)|aM=>.bad)
 |some d=>(match b with|.eql=>.pu a (ox false d)|.neq=>.pu a (ox true d)|_=>.bad)
 |_=>.bad
def cellsOf(v:V):List V:=match v with
 |.agg a=>a
 |v=>[v]
def bg(v:V):Bool:=match v with
 |.any=>false
 |_=>true
def rep(b:List f)(n:Nat):List f:=Nat.rec (motive:=fun _=>List f) [] (fun _ a=>cW b a) n
def iq(c:Bool)(d:Nat)(l:List V)(H:af):Option V:=
 match l with
 |[.ptr b o]=>Bool.casesOn (motive:=fun _=>Option V) c (H.load b o) (ao (H.cS b o d) fun a=>some (.agg a))
 |[.cY a k]=>Bool.casesOn (motive:=fun _=>Option V) c (cK a k) (ao (cq (eC a k) d) fun r=>some (.agg r))
 |_=>aM
def oL(a:Nat)(l:List V)(H:af):Option (V×af):=
 match l with
 |[.ptr b o,v]=>aQ (and (bg v) (bn (cr (cellsOf v)) a)) (ao (H.e5 b o (cellsOf v)) fun H=>some (V.undef,H))
 |_=>aM
def pn(d:List (Nat×Nat)):List V→List V→Option (List V):=
 List.rec (motive:=fun _=>List V→List V→Option (List V)) (fun _ a=>some a)
  (fun p _ c b a=>List.casesOn (motive:=fun _=>Option (List V)) b aM (fun v b=>
    aQ (and (bg v) (bn (cr (cellsOf v)) p.2)) (ao (cC (cellsOf v) a p.1) fun a=>c b a))) d
def placesOf(f:Nat→Option (Nat×Nat))(l:List (Nat×Operand)):Option (List (Nat×Nat)×List (Fr→V)):=
 List.rec (motive:=fun _=>Option (List (Nat×Nat)×List (Fr→V))) (some ([],[]))
  (fun p _ a=>ao (f p.1) fun q=>ao (hD p.2) fun x=>ao a fun r=>some (q::r.1,x::r.2)) l
def zeroCells(T:cg)(t:TypeId):Option (List V):=
 ao (T.info t) fun i=>ao i.zero fun z=>ao (mU 20 z) fun v=>some (cellsOf v)
def iQ(T:cg)(t:TypeId):Option Nat:=ao (T.info t) fun i=>some i.size
def iD(x:Option bP):bP:=Option.casesOn (motive:=fun _=>bP) x .bad (fun c=>c)
def BK(T:cg)(l:List Field):Option (List (Nat×Nat)):=
 List.rec (motive:=fun _=>Option (List (Nat×Nat))) (some []) (fun f _ a=>ao (iQ T f.type) fun s=>ao a fun r=>some ((f.offset,s)::r)) l
def D3(T:cg)(t:TypeId)(parts:List (Nat×Operand)):bP:=
 iD<|ao (zeroCells T t) fun c=>ao (T.bq t) fun d=>match d with
  |.struct f=>ao (BK T f.toList) fun g=>ao (placesOf (cK g) parts) fun r=>
    some (.pu r.2 (fun b=>ao (pn r.1 b c) fun a=>some (.val (.agg a))))
  |.array _ e=>ao (iQ T e) fun s=>ao (placesOf (fun i=>some (dQ i s,s)) parts) fun r=>
    some (.pu r.2 (fun b=>ao (pn r.1 b c) fun a=>some (.val (.agg a))))
  |_=>aM
def D4(T:cg)(t:TypeId)(a:Nat)(parts:List (Nat×Operand)):bP:=
 iD<|ao (T.bq t) fun d=>match d with
  |.slice e=>ao (iQ T e) fun s=>aQ (bM (dQ a s) 16777216)<|ao (zeroCells T e) fun b=>
    ao (placesOf (fun i=>some (dQ i s,s)) parts) fun r=>
    aQ (bn (cr b) s)<|some (.pu r.2 (fun f=>ao (pn r.1 f (rep b a)) fun c=>some (.new c (.slice a a))))
  |_=>aM
def gm(v:V):Option Nat:=match v with
 |.int _ (.ofNat n)=>some n
 |_=>aM
def xA(a:Nat)(l:List V):Option aY:=match l with
 |[.ptr b o]=>some (.val (.ptr b (gv o a)))
 |[.cY c k]=>some (.val (.cY c (gv k a)))
 |_=>aM
def dJ(a:Option Nat)(c:Nat)(l:List V):Option aY:=match l with
 |[x,i]=>ao (gm i) fun i=>(match x with
  |.ptr b o=>ao a fun n=>aQ (bM (Nat.succ i) n) (some (.val (.ptr b (gv o (dQ i c)))))
  |.slice b o e _=>Option.casesOn (motive:=fun _=>Option aY) a (aQ (bM (Nat.succ i) e) (some (.val (.ptr b (gv o (dQ i c)))))) (fun _=>aM)
  |.row n d=>Option.casesOn (motive:=fun _=>Option aY) a (aQ (bM (Nat.succ i) n) (some (.val (.cY d (dQ i c))))) (fun _=>aM)
  |.cY d k=>ao a fun n=>aQ (bM (Nat.succ i) n) (some (.val (.cY d (gv k (dQ i c)))))
  |_=>aM)
 |_=>aM
def kF(l:List V):Option aY:=match l with
 |[.str s,i]=>ao (gm i) fun i=>ao (cK s i) fun b=>some (.val (.int .u8 (.ofNat b.toNat)))
 |_=>aM
def jI(lo hi:Option V)(a b:Nat):Option (Nat×Nat):=
 ao (Option.casesOn (motive:=fun _=>Option Nat) hi (some a) gm) fun h=>
 ao (Option.casesOn (motive:=fun _=>Option Nat) lo (some 0) gm) fun l=>
 aQ (and (bM h b) (bM l h)) (some (l,h))
def fh(n:Nat):Bool:=bn n 0
def v9(s:List UInt8)(lo hi:Option V):Option aY:=
 ao (jI lo hi (cr s) (cr s)) fun r=>ao (cq (eC s r.1) (ja r.2 r.1)) fun t=>some (.val (.str t))
def qO(b o c a d:Nat)(lo hi:Option V):Option aY:=
 ao (jI lo hi c a) fun r=>
  some (.val (.slice b (Bool.casesOn (motive:=fun _=>Nat) (bn a r.1) (gv o (dQ r.1 d)) o) (ja r.2 r.1) (.known (ja a r.1))))
def Ag(b o a k:Nat)(lo hi:Option V):Option aY:=
 ao (jI lo hi a k) fun r=>aQ (fh r.1) (some (.val (.slice b o r.2 (.least k))))
def v_(b o a:Nat)(c:Cap)(d:Nat)(lo hi:Option V):Option aY:=
 ao (jI lo hi a a) fun r=>
  Bool.casesOn (motive:=fun _=>Option aY) (or (fh r.1) (bM (Nat.succ r.1) a)) (some (.val .emp))
   (some (.val (.slice b (gv o (dQ r.1 d)) (ja r.2 r.1) c)))
def ye(a n:Nat)(b:List V)(lo hi mx:Option V):Option aY:=
 Option.casesOn (motive:=fun _=>Option aY) mx
  (ao (jI lo hi n n) fun r=>Bool.casesOn (motive:=fun _=>Option aY) (bn r.1 r.2)
    (ao (cq (eC b (dQ r.1 a)) (dQ (ja r.2 r.1) a)) fun t=>some (.val (.row (ja r.2 r.1) t)))
    (some (.val (.row 0 []))))
  (fun m=>ao (gm m) fun m=>aQ (fh m) (ao (jI lo hi n 0) fun _=>some (.val .gM)))
def Af(d:Nat)(x:V)(lo hi mx:Option V):Option aY:=
 match x with
 |.str s=>Option.casesOn (motive:=fun _=>Option aY) mx (v9 s lo hi) (fun _=>aM)
 |.slice b o a c=>Option.casesOn (motive:=fun _=>Option aY) mx
   (match c with
    |.known n=>qO b o a n d lo hi
    |.grown f=>aQ (bn f d) (v_ b o a c d lo hi)
    |.nw=>v_ b o a c d lo hi
    |.least k=>Ag b o a k lo hi)
   (fun m=>ao (gm m) fun m=>aQ (bM m (match c with|.known n=>n|_=>a)) (qO b o a m d lo hi))
 |.an=>ao (jI lo hi 0 0) fun _=>Option.casesOn (motive:=fun _=>Option aY) mx (some (.val .an)) (fun m=>ao (gm m) fun m=>aQ (fh m) (some (.val .an)))
 |.emp=>ao (jI lo hi 0 0) fun _=>Option.casesOn (motive:=fun _=>Option aY) mx (some (.val .emp)) (fun m=>ao (gm m) fun m=>aQ (fh m) (some (.val .emp)))
 |.row n e=>ye d n e lo hi mx
 |_=>aM
def k4(x:V)(lo hi mx:Option V):Option aY:=match x with
 |.str s=>Af 1 (.str s) lo hi mx
 |_=>aM
def j7(a:Nat)(x:V)(lo hi mx:Option V):Option aY:=match x with
 |.str _=>aM
 |x=>Af a x lo hi mx
def nB(n a:Nat)(x:V)(lo hi mx:Option V):Option aY:=
 match x with
 |.ptr b o=>Option.casesOn (motive:=fun _=>Option aY) mx (qO b o n n a lo hi)
   (fun m=>ao (gm m) fun m=>aQ (bM m n) (qO b o n m a lo hi))
 |_=>aM
def slice3(g:V→Option V→Option V→Option V→Option aY)(lo hi mx:Bool)(l:List V):Option aY:=
 match l with
 |x::r=>
  let a:=Bool.casesOn (motive:=fun _=>Option V×List V) lo (aM,r) (match r with|y::r=>(some y,r)|[]=>(aM,[]));let b:=Bool.casesOn (motive:=fun _=>Option V×List V) hi (aM,a.2) (match a.2 with|y::r=>(some y,r)|[]=>(aM,[]));let c:=Bool.casesOn (motive:=fun _=>Option V×List V) mx (aM,b.2) (match b.2 with|y::r=>(some y,r)|[]=>(aM,[]))
  aQ (or (!mx) hi) (g x a.1 b.1 c.1)
 |[]=>aM
def mL(bytes:Nat)(a:List V)(l:List V):Option aY:=match l with
 |[x,y]=>ao (gm x) fun n=>ao (gm y) fun c=>
   aQ (and (bM n c) (bM (dQ c bytes) 1099511627776)) (aQ (bM c 1099511627776) (some (.new (rep a c) (.slice n c))))
 |_=>aM
def kX(v:V):Option Nat:=match v with
 |.slice _ _ n _=>some n
 |.an=>some 0
 |.emp=>some 0
 |.str s=>some (cr s)
 |.row n _=>some n
 |.gM=>some 0
 |_=>aM
def lmap{b:Type}(c:f→b)(l:List f):List b:=List.rec (motive:=fun _=>List b) [] (fun a _ d=>c a::d) l
def dS(H:af)(a n:Nat)(v:V):Option (List V):=match v with
 |.slice b o _ _=>H.cS b o (dQ n a)
 |.an=>aQ (fh n) (some [])
 |.emp=>aQ (fh n) (some [])
 |.str s=>aQ (bn a 1)<|ao (cq s n) fun t=>some (lmap (fun b=>.int .u8 (.ofNat b.toNat)) t)
 |.row _ c=>cq c (dQ n a)
 |.gM=>aQ (fh n) (some [])
 |_=>aM
def lz(H:af)(c b:Nat)(a:List V):Option (V×af):=
 some (.slice H.next 0 b (.grown c),(H.push (.cells a (Nat.succ H.next))).push (.bB H.next H.next))
def je(a bytes:Nat):Bool:=and (bM a 1099511627776) (bM (dQ a bytes) 1099511627776)
def o4(H:af)(e:Nat)(b d:Nat)(a:List V):Option (V×af):=
 cP.casesOn (motive:=fun _=>Option (V×af)) (H.get b) aM
  (fun _ g=>cP.casesOn (motive:=fun _=>Option (V×af)) (H.get g) aM (fun _ _=>aM)
    (fun c _=>aQ (and (bn c b) (!(fh g))) (some (.slice H.next 0 d (.grown e),(H.push (.cells a g)).set g (.bB H.next H.next))))
    (fun _=>aM))
  (fun _ _=>aM) (fun _=>aM)
def jX(d bytes:Nat)(s:V)(n:Nat)(e:List V)(H:af):Option (V×af):=
 Bool.casesOn (motive:=fun _=>Option (V×af)) (fh n)
  (match s with
   |.an=>aQ (je n bytes) (lz H d n e)
   |.gM=>aQ (je n bytes) (lz H d n e)
   |.slice b o a c=>
    aQ (je (gv a n) bytes)<|
    (match c with
     |.known k=>Bool.casesOn (motive:=fun _=>Option (V×af)) (bM (gv a n) k)
       (ao (H.cS b o (dQ a d)) fun f=>lz H d (gv a n) (cW f e))
       (ao (H.e5 b (gv o (dQ a d)) e) fun H=>some (.slice b o (gv a n) c,H))
     |.grown g=>aQ (and (bn g d) (cG e)) (ao (H.cS b o (dQ a d)) fun f=>o4 H d b (gv a n) (cW f e))
     |.nw=>aM
     |.least k=>aQ (bM (gv a n) k) (ao (H.e5 b (gv o (dQ a d)) e) fun H=>some (.slice b o (gv a n) (.least k),H)))
   |_=>aM)
  (match s with
   |.an=>some (s,H)
   |.slice .. =>some (s,H)
   |.emp=>some (s,H)
   |.row _ _=>some (s,H)
   |.gM=>some (s,H)
   |_=>aM)
def fH(a bytes:Nat)(l:List V)(H:af):Option (V×af):=match l with
 |[s,x]=>ao (kX x) fun n=>ao (dS H a n x) fun b=>jX a bytes s n b H
 |_=>aM
def yY(bytes:Nat)(a:List V)(l:List V):Option aY:=match l with
 |[s,x]=>(match s with
  |.an=>ao (gm x) fun n=>aQ (and (bM 1 n) (je n bytes)) (some (.new (rep a n) (.least n)))
  |_=>aM)
 |_=>aM
def ov(a:Nat)(l:List V)(H:af):Option (V×af):=match l with
 |[.slice b o c _,x]=>ao (kX x) fun m=>ao (dS H a (dU m c) x) fun d=>
   ao (H.e5 b o d) fun H=>some (.int .i64 (.ofNat (dU m c)),H)
 |[.an,x]=>ao (kX x) fun _=>ao (dS H a 0 x) fun _=>some (.int .i64 (.ofNat 0),H)
 |[.emp,x]=>ao (kX x) fun _=>ao (dS H a 0 x) fun _=>some (.int .i64 (.ofNat 0),H)
 |_=>aM
def rI(T:cg)(c:TypeId):Option (V→V→Option Bool):=
 ao (wU T c) fun ds=>some (fun a b=>match a with
  |.agg x=>(match b with|.agg y=>m9 ds x y|_=>aM)
  |_=>aM)
def pC(f:V→V→Option Bool)(k:V)(a:List (V×V)):Nat→Option (Option (Nat×V)):=
 List.rec (motive:=fun _=>Nat→Option (Option (Nat×V))) (fun _=>some aM)
  (fun e _ b i=>ao (f k e.1) fun r=>Bool.casesOn (motive:=fun _=>Option (Option (Nat×V))) r (b (Nat.succ i)) (some (some (i,e.2)))) a
def af.jg(H:af)(b:Nat):Option (List (V×V)):=
 cP.casesOn (motive:=fun _=>Option (List (V×V))) (H.get b) aM (fun _ _=>aM) (fun _ _=>aM) (fun o=>match o with|.map a=>some a|_=>aM)
def uk(a:Bool)(v:V)(there:Bool):V:=match a with
 |true=>.az [v,.bool there]
 |false=>v
def uh(f:V→V→Option Bool)(z:V)(a:Bool)(l:List V)(H:af):Option V:=match l with
 |[m,k]=>ao (f k k) fun _=>(match m with
  |.j3=>some (uk a z false)
  |.map b=>ao (H.jg b) fun c=>ao (pC f k c 0) fun r=>Option.casesOn (motive:=fun _=>Option V) r (some (uk a z false)) (fun q=>some (uk a q.2 true))
  |_=>aM)
 |_=>aM
def zB(l:List f)(x:f):Nat→List f:=
 List.rec (motive:=fun _=>Nat→List f) (fun _=>[]) (fun a l b n=>Nat.rec (motive:=fun _=>List f) (x::l) (fun m _=>a::b m) n) l
def yA(f:V→V→Option Bool)(l:List V)(H:af):Option (V×af):=match l with
 |[.map b,k,v]=>ao (f k k) fun _=>ao (H.jg b) fun a=>ao (pC f k a 0) fun r=>
   Option.casesOn (motive:=fun _=>Option (V×af)) r (some (V.undef,H.set b (.ck (.map (cW a [(k,v)])))))
    (fun q=>some (V.undef,H.set b (.ck (.map (zB a (k,v) q.1)))))
 |_=>aM
def Gz(l:List V)(H:af):Option (V×af):=match l with
 |[]=>some (.map H.next,H.push (.ck (.map [])))
 |_=>aM
def ug(l:List V)(H:af):Option V:=match l with
 |[.j3]=>some (.int .i64 (.ofNat 0))
 |[.map b]=>ao (H.jg b) fun a=>some (.int .i64 (.ofNat (cr a)))
 |_=>aM
def upto(n:Nat):List Nat:=Nat.rec (motive:=fun _=>List Nat) [] (fun m a=>m::a) n
def z4(l:List V)(H:af):Option (V×af):=match l with
 |[.map b]=>ao (H.jg b) fun a=>some (.ptr H.next 0,H.push (.ck (.iter b (cr a) (upto (cr a)) aM (cr a))))
 |_=>aM
def sF(l:List V)(H:af):Option V:=match l with
 |[.ptr b 0]=>(match H.get b with
  |.ck (.iter m _ _ c d)=>ao (H.jg m) fun a=>aQ (bn (cr a) d)<|ao c fun i=>ao (cK a i) fun e=>some (.az [e.1,e.2])
  |_=>aM)
 |_=>aM
def bytesOf(l:List V):Option (List UInt8):=
 List.rec (motive:=fun _=>Option (List UInt8)) (some []) (fun v _ a=>(match v with
  |.int .u8 (.ofNat n)=>aQ (bM (Nat.succ n) 256) (ao a fun r=>some (gJ n::r))
  |_=>aM)) l
def tg(l:List V)(H:af):Option V:=match l with
 |[.an]=>some (.str [])
 |[.emp]=>some (.str [])
 |[.slice b o c _]=>ao (H.cS b o c) fun a=>ao (bytesOf a) fun s=>some (.str s)
 |[.row n a]=>ao (cq a n) fun a=>ao (bytesOf a) fun s=>some (.str s)
 |_=>aM
def Aq(l:List V):Option aY:=match l with
 |[.str s]=>some (.new (lmap (fun b=>.int .u8 (.ofNat b.toNat)) s) (.bytes (cr s)))
 |_=>aM
def qm(T:cg)(c b:TypeId)(a:List (Fr→V)):bP:=
 match T.bq c,T.bq b with
 |some (.int _),some (.int k)=>.pu a (fun l=>match l with|[.int _ n]=>iO k (aC k n)|_=>aM)
 |some .string,some (.slice e)=>(match T.bq e with|some (.int .u8)=>.pu a Aq|_=>.bad)
 |some (.slice e),some .string=>(match T.bq e with|some (.int .u8)=>.rd a tg|_=>.bad)
 |_,_=>.bad
def un(f:V→Option aY)(l:List V):Option aY:=match l with
 |[v]=>f v
 |_=>aM
def zA(v:V):Option aY:=match v with
 |.str s=>iO .i64 (.ofNat (cr s))
 |_=>aM
def cT(v:V):Option aY:=match v with
 |.slice _ _ n _=>iO .i64 (.ofNat n)
 |.an=>iO .i64 (.ofNat 0)
 |.emp=>iO .i64 (.ofNat 0)
 |.row n _=>iO .i64 (.ofNat n)
 |.gM=>iO .i64 (.ofNat 0)
 |_=>aM
def y8(v:V):Option aY:=match v with
 |.slice _ _ _ c=>(match c with|.known n=>iO .i64 (.ofNat n)|_=>aM)
 |.an=>iO .i64 (.ofNat 0)
 |.gM=>iO .i64 (.ofNat 0)
 |_=>aM
def max2(a b:V):Option V:=match a,b with
 |.int k x,.int _ y=>some (.int k (match lA x y with|true=>y|false=>x))
 |_,_=>aM
def min2(a b:V):Option V:=match a,b with
 |.int k x,.int _ y=>some (.int k (match lA y x with|true=>y|false=>x))
 |_,_=>aM
def rz(f:V→V→Option V)(l:List V):Option aY:=match l with
 |[]=>aM
 |x::r=>ao (List.rec (motive:=fun _=>V→Option V) (fun a=>some a) (fun y _ b a=>ao (f a y) b) r x) fun v=>some (.val v)
def ail(T:cg)(a:List TypeId):Option Bool:=ao (cK a 1) fun t=>ao (T.bq t) fun d=>match d with
 |.int _=>some true
 |_=>some false
def y4(T:cg)(b:Builtin)(c:List TypeId)(a:List (Fr→V)):bP:=
 iD<|ao (cK c 0) fun t=>ao (T.bq t) fun d=>match b with
  |.len=>(match d with
    |.string=>some (.pu a (un zA))
    |.slice _=>some (.pu a (un cT))
    |.array n _=>some (.pu a (un fun _=>iO .i64 (.ofNat n)))
    |.map _ _=>some (.rd a ug)
    |_=>aM)
  |.cap=>(match d with
    |.slice _=>some (.pu a (un y8))
    |_=>aM)
  |.max=>some (.pu a (rz max2))
  |.min=>some (.pu a (rz min2))
  |.append=>(match d with
    |.slice e=>ao (T.info e) fun i=>ao (ail T c) fun z=>ao (zeroCells T e) fun f=>aQ (bn (cr f) i.size)
      (Bool.casesOn (motive:=fun _=>Option bP) z (some (.gB a (fH i.size i.bytes))) (some (.pu a (yY i.bytes f))))
    |_=>aM)
  |.copy=>(match d with
    |.slice e=>ao (iQ T e) fun s=>some (.gB a (ov s))
    |_=>aM)
  |_=>aM
def ru(l:List V):Option (o3×List V):=match l with
 |.func f first captured::a=>some (.fn f,cW first (cW a captured))
 |_=>aM
def Ay(v:V):Option Nat:=match v with
 |.int .u64 (.ofNat n)=>some n
 |_=>aM
def zK(l:List V):Option (Nat×Nat×Nat):=match l with
 |[a,b,c]=>ao (Ay a) fun x=>ao (Ay b) fun y=>ao (Ay c) fun z=>some (x,y,z)
 |_=>aM
def dR(l:List V):Option aY:=ao (zK l) fun t=>aQ (bM t.2.2 1)
 (some (.val (.az [.int .u64 (.ofNat (Nat.mod (gv (gv t.1 t.2.1) t.2.2) 18446744073709551616)),.int .u64 (.ofNat (Nat.div (gv (gv t.1 t.2.1) t.2.2) 18446744073709551616))])))
def dP(l:List V):Option aY:=ao (zK l) fun t=>aQ (bM t.2.2 1)
 (some (.val (.az [.int .u64 (.ofNat (Nat.mod (ja (ja (gv t.1 18446744073709551616) t.2.1) t.2.2) 18446744073709551616)),.int .u64 (.ofNat (Bool.casesOn (motive:=fun _=>Nat) (bM (gv t.2.1 t.2.2) t.1) 1 0))])))
def FK(a:String):Option (List V→Option aY):=
 if a= "math/bits.Add64" then some dR
 else if a= "math/bits.Sub64" then some dP
 else aM
abbrev eO:=aO (Option Func)
def Kr(N:eO)(T:cg)(c:Call):bP:=
 iD<|match c.callee with
  |.value (.func f)=>ao (N.get aM f) fun d=>ao (iE c.args.toList) fun a=>Option.casesOn (motive:=fun _=>Option bP) d.body
    (aQ (d.origin== "") (ao (FK d.name) fun g=>some (.pu a g)))
    (fun _=>some (.call a (fun l=>some (.fn f,l))))
  |.value x=>ao (iE (x::c.args.toList)) fun a=>some (.call a ru)
  |.builtin b=>ao (iE c.args.toList) fun a=>some (y4 T b c.argTypes.toList a)
  |.invoke _ _=>aM
def zN(l:List V):Option aY:=match l with
 |[.ptr b o]=>some (.val (.ptr b o))
 |[.cY a k]=>some (.val (.cY a k))
 |_=>aM
def zW(l:List V):Option aY:=match l with
 |[.bool true,x,_]=>some (.val x)
 |[.bool false,_,x]=>some (.val x)
 |_=>aM
def zj(i:Nat)(l:List V):Option aY:=match l with
 |[.az a]=>ao (cK a i) fun v=>some (.val v)
 |_=>aM
def PL(l:List V):Option aY:=match l with
 |[x]=>some (.val x)
 |_=>aM
def Jl(l:List V)(H:af):Option (V×af):=match l with
 |[x]=>some (x,H)
 |_=>aM
def RV(n:Nat)(l:List V):Option (List V×List V):=ao (cq l n) fun a=>some (a,eC l n)
def j4(x:Option Operand):List Operand:=match x with|some y=>[y]|aM=>[]
def cop(N:eO)(T:cg)(o:Op):bP:=match o with
 |.move x=>iD (ao (hD x) fun x=>some (.pu [x] PL))
 |.assign x=>iD (ao (hD x) fun x=>some (.gB [x] Jl))
 |.pick c a b=>iD (ao (iE [c,a,b]) fun h=>some (.pu h zW))
 |.alloc t=>iD (ao (zeroCells T t) fun j=>some (.pu [] (fun l=>match l with|[]=>some (.new j .ptr)|_=>aM)))
 |.box _ x=>iD (ao (hD x) fun x=>some (.pu [x] (fun l=>match l with|[v]=>aQ (bg v) (some (.new (cellsOf v) .ptr))|_=>aM)))
 |.build t parts=>D3 T t parts.toList
 |.buildSlice t n parts=>D4 T t n parts.toList
 |.load t a=>iD (ao (hD a) fun x=>ao (T.isAgg t) fun g=>ao (iQ T t) fun s=>some (.rd [x] (iq g s)))
 |.store t a v=>iD (ao (iE [a,v]) fun h=>ao (iQ T t) fun s=>some (.gB h (oL s)))
 |.nilCheck x=>iD (ao (hD x) fun x=>some (.pu [x] zN))
 |.binOp q t x y _=>iD (ao (iE [x,y]) fun h=>some (u_ T q t h))
 |.unOp q _ x=>iD (ao (hD x) fun x=>match q with
   |.neg=>some (.pu [x] (fun l=>match l with|[.int k n]=>iO k (aC k (Int.sub (.ofNat 0) n))|_=>aM))
   |.not=>some (.pu [x] (fun l=>match l with|[.bool b]=>iU (!b)|_=>aM))
   |_=>aM)
 |.convert s d x=>iD (ao (hD x) fun x=>some (qm T s d [x]))
 |.makeFunc (.func f) first captured=>iD (ao (iE (cW first.toList captured.toList)) fun h=>some (.pu h (fun l=>ao (RV (cr first.toList) l) fun r=>some (.val (.func f r.1 r.2)))))
 |.makeSlice t l c=>iD (ao (iE [l,c]) fun h=>ao (T.bq t) fun d=>match d with
   |.slice e=>ao (T.info e) fun i=>ao (zeroCells T e) fun j=>aQ (bn (cr j) i.size) (some (.pu h (mL i.bytes j)))
   |_=>aM)
 |.slice t x lo hi mx=>iD (ao (iE (x::cW (j4 lo) (cW (j4 hi) (j4 mx)))) fun h=>ao (T.bq t) fun d=>match d with
   |.string=>some (.pu h (slice3 k4 lo.isSome hi.isSome mx.isSome))
   |.slice e=>ao (iQ T e) fun s=>some (.pu h (slice3 (j7 s) lo.isSome hi.isSome mx.isSome))
   |.array n e=>ao (iQ T e) fun s=>some (.pu h (slice3 (nB n s) lo.isSome hi.isSome mx.isSome))
   |_=>aM)
 |.fieldAddr s x f=>iD (ao (hD x) fun x=>ao (T.bq s) fun d=>match d with
   |.struct u=>ao (cK u.toList f) fun f=>ao (iQ T f.type) fun n=>aQ (!(fh n)) (some (.pu [x] (xA f.offset)))
   |_=>aM)
 |.indexAddr t x i=>iD (ao (iE [x,i]) fun h=>ao (T.bq t) fun d=>match d with
   |.slice e=>ao (iQ T e) fun s=>some (.pu h (dJ aM s))
   |.array n e=>ao (iQ T e) fun s=>some (.pu h (dJ (some n) s))
   |_=>aM)
 |.index t x i=>iD (ao (iE [x,i]) fun h=>ao (T.bq t) fun d=>match d with
   |.string=>some (.pu h kF)
   |_=>aM)
 |.extract t i=>iD (ao (hD t) fun x=>some (.pu [x] (zj i)))
 |.makeMap _ r=>(match r with|aM=>.gB [] Gz|some _=>.bad)
 |.lookup t x i A=>iD (ao (iE [x,i]) fun h=>ao (T.bq t) fun d=>match d with
   |.map p e=>ao (rI T p) fun f=>ao (T.info e) fun i=>ao i.zero fun z=>ao (mU 20 z) fun z=>some (.rd h (uh f z A))
   |_=>aM)
 |.mapUpdate t m k v=>iD (ao (iE [m,k,v]) fun h=>ao (T.bq t) fun d=>match d with
   |.map p _=>ao (rI T p) fun f=>some (.gB h (yA f))
   |_=>aM)
 |.range t x=>iD (ao (hD x) fun x=>ao (T.bq t) fun d=>match d with
   |.map _ _=>some (.gB [x] z4)
   |_=>aM)
 |.next x w=>iD (ao (hD x) fun x=>some (Bool.casesOn (motive:=fun _=>bP) w (.mN x) .bad))
 |.entry x=>iD (ao (hD x) fun x=>some (.rd [x] sF))
 |.call c=>Kr N T c
 |_=>.bad
structure Step where
 want:Fr→Option Bool
 dst:Option Nat
 cop:bP
inductive c3 where
 |ex (s:Step)
 |re (s:Step)
inductive X where
 |norm|exit (id:Nat)|ret
inductive iw where
 |fail
 |ok (x:X) (F:Fr) (H:af)
def put(F:Fr)(d:Option Nat)(v:V):Fr:=
 Option.casesOn (motive:=fun _=>Fr) d F (fun t=>aO.x_ V.undef v (path t) F)
def vals(a:List (Fr→V))(F:Fr):List V:=lmap (fun x=>x F) a
abbrev jR:=o3→List V→af→Option (V×af)
def exec(cf:jR)(s:Step)(F:Fr)(H:af):Option (Fr×af):=
 Option.casesOn (motive:=fun _=>Option (Fr×af)) (s.want F) aM fun e=>Bool.casesOn (motive:=fun _=>Option (Fr×af)) e (some (put F s.dst V.undef,H))
  (match s.cop with
   |.bad=>aM
   |.pu a g=>ao (g (vals a F)) fun r=>aY.casesOn (motive:=fun _=>Option (Fr×af)) r (fun v=>some (put F s.dst v,H)) (fun b d=>some (put F s.dst (d.mk H.next),H.push (.cells b 0)))
   |.rd a g=>ao (g (vals a F) H) fun v=>some (put F s.dst v,H)
   |.gB a g=>ao (g (vals a F) H) fun r=>some (put F s.dst r.1,r.2)
   |.call a g=>ao (g (vals a F)) fun c=>ao (cf c.1 c.2 H) fun r=>some (put F s.dst r.1,r.2)
   |.mN _=>aM)
def again(s:Step)(F:Fr)(H:af):Bool:=
 Option.casesOn (motive:=fun _=>Bool) (s.want F) false fun a=>Bool.casesOn (motive:=fun _=>Bool) a true
  (match s.cop with
   |.rd b g=>Option.casesOn (motive:=fun _=>Bool) (g (vals b F) H) false (fun v=>Option.casesOn (motive:=fun _=>Bool) s.dst true (fun t=>rX 20 v (aO.lS V.undef (path t) F)))
   |_=>true)
def s5(cf:jR)(l:List c3):Fr→af→Option (Fr×af):=
 List.rec (motive:=fun _=>Fr→af→Option (Fr×af)) (fun F H=>some (F,H))
  (fun i _ a F H=>c3.casesOn (motive:=fun _=>Option (Fr×af)) i (fun s=>ao (exec cf s F H) fun r=>a r.1 r.2) (fun s=>aQ (again s F H) (a F H))) l
def kA(e:Edge):Bool:=match e.ground with
 |.textOnly _=>false
 |.gcOnly _=>false
 |_=>true
def zy(b:f→Bool)(l:List f):Bool:=List.rec (motive:=fun _=>Bool) false (fun a _ c=>or (b a) c) l
def lW(b:f→Bool)(l:List f):Bool:=List.rec (motive:=fun _=>Bool) true (fun a _ c=>and (b a) c) l
def kH(c:f→Bool)(l:List f):List f:=List.rec (motive:=fun _=>List f) [] (fun a _ b=>Bool.casesOn (motive:=fun _=>List f) (c a) b (a::b)) l
def iB(m i:Nat):Bool:=bn (Nat.mod (Nat.shiftRight m i) 2) 1
def qG(b:List Nat)(c:List Edge):Nat:=
 List.rec (motive:=fun _=>Nat) 0 (fun e _ a=>Bool.casesOn (motive:=fun _=>Nat) (kA e) a (Nat.lor a (Nat.lor (Nat.shiftLeft 1 e.on) (rK 0 b e.on)))) c
def masks(c:List Oper):List Nat→List Nat:=
 List.rec (motive:=fun _=>List Nat→List Nat) (fun a=>a) (fun o _ b a=>b (cW a [qG a o.after.toList])) c
def mD(b:List Oper):Nat→Bool:=
 List.rec (motive:=fun _=>Nat→Bool) (fun _=>true) (fun o _ a i=>and (lW (fun e=>or (!(kA e)) (bM (Nat.succ e.on) i)) o.after.toList) (a (Nat.succ i))) b
def BW(t:Nat)(x:Operand):Bool:=match x with
 |.tmp u=>bn t u
 |_=>false
def tS(a:List Oper)(j:Nat):Option Nat:=ao (cK a j) fun o=>o.dst
def Cl(t:Nat)(d:Option Nat):Bool:=match d with|some u=>bn t u|aM=>false
def reads(a:List Oper)(o:Oper)(t:Nat):Bool:=
 or (zy (BW t) o.op.operands.toList) (match o.guard with|some (j,_)=>Cl t (tS a j)|aM=>false)
def k6(a:List Oper)(o:Oper)(t:Nat):Bool:=or (Cl t o.dst) (reads a o t)
structure Info where
 ix:Nat
 o:Oper
 mask:Nat
 s:Step
 gE:Bool
def nj(b:Bool)(v:V):Option Bool:=match v with
 |.bool x=>some (Bool.casesOn (motive:=fun _=>Bool) b (!x) x)
 |.any=>aM
 |.cell=>aM
 |_=>some false
def mc(a:List Oper)(g:Option (Nat×Bool)):Fr→Option Bool:=match g with
 |aM=>fun _=>some true
 |some (j,b)=>Option.casesOn (motive:=fun _=>Fr→Option Bool) (tS a j) (fun _=>some false)
   (fun t F=>nj b (aO.lS V.undef (path t) F))
def stepOf(N:eO)(T:cg)(a:List Oper)(o:Oper):Step:=⟨mc a o.guard,o.dst,cop N T o.op⟩
def qA(c:bP):Bool:=match c with|.gB _ _=>true|.call _ _=>true|.mN _=>true|_=>false
def xF(c:bP):Bool:=match c with|.rd _ _=>true|_=>false
def infos(N:eO)(T:cg)(a:List Oper)(c:List Oper):List Nat→Nat→List Info:=
 List.rec (motive:=fun _=>List Nat→Nat→List Info) (fun _ _=>[])
  (fun o _ b ms i=>⟨i,o,rK 0 ms 0,stepOf N T a o,qA (cop N T o.op)⟩::b (eC ms 1) (Nat.succ i)) c
def tf(a:List Oper)(l:List Info):Bool:=
 lW (fun k=>match k.o.dst with
  |aM=>k.gE
  |some t=>and (or k.gE (!(reads a k.o t))) (lW (fun i=>or (bn i.ix k.ix) (or (!(k6 a i.o t)) (or (iB i.mask k.ix) (and k.gE (iB k.mask i.ix))))) l)) l
def A1(l:List Info):Bool:=
 List.rec (motive:=fun _=>Bool) true (fun a l c=>and c (List.casesOn (motive:=fun _=>Bool) l true (fun b _=>iB b.mask a.ix))) l
def nc(b:List Info)(m:Nat):Nat:=List.rec (motive:=fun _=>Nat) 0 (fun e _ a=>Bool.casesOn (motive:=fun _=>Nat) (iB m e.ix) a (Nat.succ a)) b
def mA(l a:List Info)(j:Nat):List Info:=kH (fun i=>and (!i.gE) (bn (nc a i.mask) j)) l
def Ak(l a:List Info)(r:List Info):Nat→List c3:=
 List.rec (motive:=fun _=>Nat→List c3) (fun j=>lmap (fun i=>c3.ex i.s) (mA l a j))
  (fun e _ b j=>cW (lmap (fun i=>c3.ex i.s) (mA l a j)) (c3.ex e.s::cW
    (lmap (fun i=>c3.re i.s) (kH (fun i=>and (!i.gE) (and (xF i.s.cop) (and (bM (nc a i.mask) j) (!(iB e.mask i.ix))))) l)) (b (Nat.succ j)))) r
def plan(N:eO)(T:cg)(a:List Oper)(c:Bool):Option (List c3):=
 Bool.casesOn (motive:=fun _=>Option (List c3)) c (some (lmap (fun o=>c3.ex (stepOf N T a o)) a))
  (let l:=infos N T a a (masks a []) 0
   let b:=kH (fun i=>i.gE) l
   aQ (and (mD a 0) (and (tf a l) (A1 b))) (some (Ak l b b 0)))
def uq(G n:Nat)(x:Operand):Bool:=match x with
 |.tmp t=>bM (Nat.succ t) n
 |.global g=>bM (Nat.succ g) G
 |_=>true
def GU(n:Nat)(d:Option Nat):Bool:=match d with|some t=>bM (Nat.succ t) n|aM=>true
def nx(G n:Nat)(o:Oper):Bool:=and (GU n o.dst) (lW (uq G n) o.op.operands.toList)
def codeOk(G n:Nat)(c:Code):Bool:=
 Code.rec (motive:=fun _=>Bool) true (fun _ d _=>lW (nx G n) d.toList) (fun _ _ a b=>and a b) (fun x _ _ a b=>and (uq G n x) (and a b)) (fun _ _ a=>a) (fun _ a=>a)
  (fun g _ _ _ a b=>and (uq G n g) (and a b)) (fun _=>true) (fun _ a=>a) (fun _=>true) (fun _=>true) true (fun _=>true) c
def Hz(n:Nat)(r:ResultVar):Bool:=match r with
 |.tmp t=>bM (Nat.succ t) n
 |.cell a _=>bM (Nat.succ a) n
def sJ(G:Nat)(a:Func)(c:Code):Bool:=and (!(a.name== "runtime.NumGoroutine")) (and (codeOk G a.ntmps c) (lW (Hz a.ntmps) a.results.toList))
def HA(T:cg)(F:Fr)(H:af)(r:ResultVar):Option V:=match r with
 |.tmp t=>some (aO.lS V.undef (path t) F)
 |.cell a t=>ao (T.isAgg t) fun g=>ao (iQ T t) fun s=>iq g s [aO.lS V.undef (path a) F] H
def rP(T:cg)(F:Fr)(H:af)(l:List ResultVar):Option (List V):=
 List.rec (motive:=fun _=>Option (List V)) (some []) (fun r _ a=>ao (HA T F H r) fun v=>ao a fun r=>some (v::r)) l
def oK(l:List V):V:=match l with
 |[v]=>v
 |l=>.az l
def lR(a:List V):Nat→Fr→Fr:=
 List.rec (motive:=fun _=>Nat→Fr→Fr) (fun _ F=>F) (fun v _ b i F=>b (Nat.succ i) (aO.x_ V.undef v (path i) F)) a
abbrev u0:=Nat→Bool→Code→Fr→af→iw
def Ed(G:Nat)(N:eO)(T:cg)(run:u0)(f:FuncId)(b:List V)(H:af):Option (V×af):=
 ao (N.get aM f) fun a=>ao a.body fun c=>aQ (and (sJ G a c) (bM (cr b) a.ntmps))
  (iw.casesOn (motive:=fun _=>Option (V×af)) (run a.ntmps false c (lR b 0 .nil) H) aM
    (fun x F H=>(match x with
      |.exit _=>aM
      |_=>ao (rP T F H a.results.toList) fun l=>some (oK l,H))))
def w6(G:Nat)(N:eO)(T:cg)(O:jR)(run:u0):jR:=fun t a H=>
 Option.casesOn (motive:=fun _=>Option (V×af)) (O t a H)
  (o3.casesOn (motive:=fun _=>Option (V×af)) t (fun f=>Ed G N T run f a H)) some
def andThen(r:iw)(k:Fr→af→iw):iw:=
 iw.casesOn (motive:=fun _=>iw) r .fail (fun x F H=>X.casesOn (motive:=fun _=>iw) x (k F H) (fun id=>.ok (.exit id) F H) (.ok .ret F H))
def OP(id:Nat)(r:iw):iw:=
 iw.casesOn (motive:=fun _=>iw) r .fail (fun x F H=>X.casesOn (motive:=fun _=>iw) x (.ok .norm F H)
  (fun i=>Bool.casesOn (motive:=fun _=>iw) (bn i id) (.ok (.exit i) F H) (.ok .norm F H)) (.ok .ret F H))
def Q9(o:Option (Fr×af)):iw:=Option.casesOn (motive:=fun _=>iw) o .fail (fun r=>.ok .norm r.1 r.2)
def apH(N:eO)(T:cg)(cf:jR)(b:Array Oper)(a:Bool)(F:Fr)(H:af):iw:=
 Q9 (ao (plan N T b.toList a) fun l=>s5 cf l F H)
def HK(run:Code→Fr→af→iw)(c:Operand)(a b:Code)(F:Fr)(H:af):iw:=
 Option.casesOn (motive:=fun _=>iw) (hD c) .fail (fun x=>(match x F with
  |.bool t=>Bool.casesOn (motive:=fun _=>iw) t (run b F H) (run a F H)
  |_=>.fail))
def run(G:Nat)(N:eO)(T:cg)(O:jR)(f:Nat):u0:=
 Nat.rec (motive:=fun _=>u0) (fun _ _ _ _ _=>.fail) (fun _ d n rd c F H=>
  Code.casesOn (motive:=fun _=>iw) c (.ok .norm F H)
   (fun _ g e=>apH N T (w6 G N T O d) g e F H)
   (fun a b=>andThen (d n rd a F H) (d n rd b))
   (fun x a b=>HK (d n rd) x a b F H)
   (fun id b=>OP id (d n rd b F H))
   (fun b=>andThen (d n rd b F H) (d n rd (.loop b)))
   (fun _ _ _ _=>.fail)
   (fun id=>.ok (.exit id) F H)
   (fun c=>Bool.casesOn (motive:=fun _=>iw) rd (d n false c F H) .fail)
   (fun _=>.ok .norm F H)
   (fun _=>.fail)
   (.ok .ret F H)
   (fun _=>.fail)) f
def Ec(G:Nat)(N:eO)(T:cg)(O:jR)(a:Nat):jR:=w6 G N T O (run G N T O a)
def qI:jR:=fun _ _ _=>aM
def wm(l:List f):Nat→aO (Option f)→aO (Option f):=
 List.rec (motive:=fun _=>Nat→aO (Option f)→aO (Option f)) (fun _ t=>t) (fun a _ b i t=>b (Nat.succ i) (aO.x_ aM (some a) (path i) t)) l
def Of(P:Program):eO:=wm P.funcs.toList 0 .nil
def Sg(P:Program):cg:=⟨wm P.types.toList 0 .nil⟩
structure Loc where
 c:Nat
 base:Nat
 jM:Nat
structure aG where
 f:Nat→Option Loc
 im:Nat→Option Obj
instance:CoeFun aG (fun _=>Nat→Option Loc):=⟨aG.f⟩
def Obj.at(x:Obj)(i:Nat)(v:Value):Prop:=∀(w:World) (c:Nat),w.heap[c]? =some x→w.cell? ⟨c,i,none⟩=some v
def Kz(b:Cap)(a o c:Nat):Prop:=match b with
 |.known n=>a=n
 |.grown d=>o+a*d≤c
 |.nw=>True
 |.least n=>n≤a
mutual
inductive aJ (φ:aG):V→Value→Prop
 |bool (b:Bool):aJ φ (.bool b) (.bool b)
 |int (k:IntKind) (n:Int):aJ φ (.int k n) (.int k n)
 |str (s:List UInt8):aJ φ (.str s) (.string ⟨⟨s⟩⟩)
 |ptr {b o:Nat}{l:Loc} (h:φ b=some l):aJ φ (.ptr b o) (.pointer (some ⟨l.c,l.base+o,none⟩))
 |iW:aJ φ .iW (.pointer none)
 |slice {b o len:Nat}{cap:Cap}{cap':Nat}{l:Loc} (h:φ b=some l) (h1:len≤cap') (h2:Kz cap cap' o l.jM):
   aJ φ (.slice b o len cap) (.slice (some ⟨l.c,l.base+o,none⟩) len cap')
 |an:aJ φ .an (.slice none 0 0)
 |emp (a:Addr) (cap':Nat):aJ φ .emp (.slice (some a) 0 cap')
 |map {b:Nat}{l:Loc} (h:φ b=some l):aJ φ (.map b) (.map (some l.c))
 |j3:aJ φ .j3 (.map none)
 |func (f:FuncId) {xs ys:List V}{xs' ys':List Value} (h1:bm φ xs xs') (h2:bm φ ys ys'):aJ φ (.func f xs ys) (.func (.func f) ⟨xs'⟩ ⟨ys'⟩)
 |kJ:aJ φ .kJ .nilFunc
 |kK:aJ φ .kK .nilIface
 |agg {xs:List V}{xs':List Value} (h:bm φ xs xs'):aJ φ (.agg xs) (.agg ⟨xs'⟩)
 |az {xs:List V}{xs':List Value} (h:bm φ xs xs'):aJ φ (.az xs) (.tuple ⟨xs'⟩)
 |any (v':Value):aJ φ .any v'
 |cell {v':Value} (h:v'.oneCell'=true):aJ φ .cell v'
 |eW (a:Option Addr) (cap':Nat) (h:a=none→cap'=0):aJ φ (.row 0 []) (.slice a 0 cap')
 |row {n c o cap':Nat}{cs:List V}{vs:List Value}{x:Obj} (h:φ.im c=some x) (h1:bm φ cs vs) (h2:∀i v,vs[i]? =some v→Obj.at x (o+i) v) (h3:n≤cap'):aJ φ (.row n cs) (.slice (some ⟨c,o,none⟩) n cap')
 |cY {k c o:Nat}{cs:List V}{vs:List Value}{x:Obj} (h:φ.im c=some x) (h1:bm φ cs vs) (h2:∀i v,vs[i]? =some v→Obj.at x (o+i) v):aJ φ (.cY cs k) (.pointer (some ⟨c,o+k,none⟩))
 |gM (a:Option Addr):aJ φ .gM (.slice a 0 0)
inductive bm (φ:aG):List V→List Value→Prop
 |nil:bm φ [] []
 |cons {v:V}{v':Value}{vs:List V}{vs':List Value} (h:aJ φ v v') (h':bm φ vs vs'):bm φ (v::vs) (v'::vs')
end
structure aG.le (φ ψ:aG):Prop where
 f:∀b l,φ b=some l→ψ b=some l
 im:∀c x,φ.im c=some x→ψ.im c=some x
instance{a c:aG}:CoeFun (a.le c) (fun _=>∀b l,a b=some l→c b=some l):=⟨aG.le.f⟩
theorem aG.le_refl(a:aG):a.le a:=⟨fun _ _ h=>h,fun _ _ h=>h⟩
variable{o:aG}
theorem aG.le_trans{f d:aG}(h:o.le f)(a:f.le d):o.le d:=⟨fun b l e=>a b l (h b l e),fun c x e=>a.im c x (h.im c x e)⟩
variable{x:Value}
theorem aJ.mono{g:aG}(h:o.le g){v:V}(r:aJ o v x):aJ g v x:=by
 refine aJ.rec (motive_1:=fun v x _=>aJ g v x) (motive_2:=fun v x _=>bm g v x) ?_ ?_ ?_ ?_ ?_ ?_ ?_ ?_ ?_ ?_ ?_ ?_ ?_ ?_ ?_ ?_ ?_ ?_ ?_ ?_ ?_ ?_ ?_ r
 ·exact fun b=>.bool b
 ·exact fun k n=>.int k n
 ·exact fun s=>.str s
 ·exact fun e=>.ptr (h _ _ e)
 ·exact .iW
 ·exact fun e i d=>.slice (h _ _ e) i d
 ·exact .an
 ·exact fun a c=>.emp a c
 ·exact fun e=>.map (h _ _ e)
 ·exact .j3
 ·exact fun f _ _ _ _ _ _ a b=>.func f a b
 ·exact .kJ
 ·exact .kK
 ·exact fun _ a=>.agg a
 ·exact fun _ a=>.az a
 ·exact fun x=>.any x
 ·exact fun e=>.cell e
 ·exact fun a c h=>.eW a c h
 ·exact fun e _ d j a=>.row (h.im _ _ e) a d j
 ·exact fun e _ d a=>.cY (h.im _ _ e) a d
 ·exact fun a=>.gM a
 ·exact .nil
 ·exact fun _ _ a b=>.cons a b
theorem bm.mono{d:aG}(h:o.le d):∀ {v:List V}{c:List Value},bm o v c→bm d v c
 |_,_,.nil=>.nil
 |_,_,.cons a b=>.cons (a.mono h) (b.mono h)
theorem bm.length:∀ {v:List V}{a:List Value},bm o v a→v.length=a.length
 |_,_,.nil=>rfl
 |_,_,.cons _ b=>by simp[b.length]
theorem bm.get:∀ {v:List V}{c:List Value},bm o v c→∀(i:Nat) (x:V),v[i]? =some x→∃d,c[i]? =some d∧aJ o x d
 |_,_,.nil,i,x,h=>by simp at h
 |_,_,.cons a b,0,x,h=>by simp at h;subst h;exact⟨_,rfl,a⟩
 |_,_,.cons _ b,i+1,x,h=>by simpa using b.get i x (by simpa using h)
theorem bm.append:∀ {v:List V}{d:List Value}{u:List V}{c:List Value},bm o v d→bm o u c→bm o (v++u) (d++c)
 |_,_,_,_,.nil,h=>h
 |_,_,_,_,.cons a b,h=>.cons a (b.append h)
theorem bm.take(n:Nat):∀ {v:List V}{c:List Value},bm o v c→bm o (v.take n) (c.take n):=by
 induction n with
 |zero=>intro v c _;simpa using bm.nil
 |succ n d=>intro v c h;cases h with
  |nil=>simpa using bm.nil
  |cons a b=>exact .cons a (d b)
theorem bm.drop(n:Nat):∀ {v:List V}{c:List Value},bm o v c→bm o (v.drop n) (c.drop n):=by
 induction n with
 |zero=>intro v c h;simpa using h
 |succ n d=>intro v c h;cases h with
  |nil=>simpa using bm.nil
  |cons a b=>exact d b
theorem gF(l:List f):∀n,cK l n=l[n]? :=by
 induction l with
 |nil=>intro n;rfl
 |cons a l b=>intro n;cases n with
  |zero=>rfl
  |succ n=>exact(b n).trans aB
theorem vI(d:f)(l:List f):∀n,rK d l n=(l[n]?).getD d:=by
 induction l with
 |nil=>intro n;rfl
 |cons a l b=>intro n;cases n with
  |zero=>rfl
  |succ n=>exact(b n).trans aB
theorem gO(l:List f):cr l=l.length:=by
 induction l with
 |nil=>rfl
 |cons a l b=>exact congrArg Nat.succ b
theorem kG(l:List f):∀n,eC l n=l.drop n:=by
 induction l with
 |nil=>intro n;cases n<;>rfl
 |cons a l b=>intro n;cases n with
  |zero=>rfl
  |succ n=>exact b n
theorem iP(x y:List f):cW x y=x++y:=by
 induction x with
 |nil=>rfl
 |cons a x b=>exact congrArg (a:: ·) b
theorem amr{d:Type}(b:f→d)(x:List f):lmap b x=x.map b:=by
 induction x with
 |nil=>rfl
 |cons a x c=>exact congrArg (b a:: ·) c
theorem e4(l:List f):∀n,cq l n=if n≤l.length then some (l.take n)else none:=by
 induction l with
 |nil=>intro n;cases n with
  |zero=>rfl
  |succ n=>rfl
 |cons a l b=>intro n;cases n with
  |zero=>rfl
  |succ n=>
   show Option.casesOn (motive:=fun _=>Option (List f)) (cq l n) none (fun r=>some (a::r))=_;rw[b n];by_cases h:n≤l.length
   ·simp[h]
   ·simp[h]
theorem PA(b:List f):∀l,nr b l=if b.length≤l.length then some (b++l.drop b.length)else none:=by
 induction b with
 |nil=>intro l;simp;rfl
 |cons x b c=>intro l;cases l with
  |nil=>rfl
  |cons a l=>
   show Option.casesOn (motive:=fun _=>Option (List f)) (nr b l) none (fun r=>some (x::r))=_;rw[c l];by_cases h:b.length≤l.length
   ·simp[h]
   ·simp[h]
theorem lC(b:List f)(l:List f):∀n,cC b l n=if n+b.length≤l.length then some (l.take n++b++l.drop (n+b.length))else none:=by
 induction l with
 |nil=>intro n;cases n with
  |zero=>show nr b []=_;rw[PA];simp
  |succ n=>simp;rfl
 |cons a l c=>intro n;cases n with
  |zero=>show nr b (a::l)=_;rw[PA];simp
  |succ n=>
   show Option.casesOn (motive:=fun _=>Option (List f)) (cC b l n) none (fun r=>some (a::r))=_;rw[c n];by_cases h:n+b.length≤l.length
   ·have e:n+1+b.length=(n+b.length)+1:=aa;simp[h,e]
   ·have:¬n+1+b.length≤l.length+1:=aa;simp[h,this]
theorem av{c:Type}{x:Option f}{b:f→Option c}{y:c}:ao x b=some y↔∃a,x=some a∧b a=some y:=by
 cases x with
 |none=>simp[ao]
 |some a=>simp[ao]
variable{p:Bool}
theorem cH{x:Option f}{y:f}:aQ p x=some y↔p=true∧x=some y:=by
 cases p<;>simp[aQ]
theorem beq_eq(a b:Nat):bn a b=true↔a=b:=⟨Nat.eq_of_beq_eq_true,fun h=>by subst h;exact sn a⟩
theorem eZ(a b:Nat):bM a b=true↔a≤b:=⟨mh,Nat.ble_eq_true_of_le⟩
theorem xI(a b:IntKind):g_ a b=decide (a=b):=by cases a<;>cases b<;>rfl
theorem rG(a b:Int):mH a b=decide (a=b):=by
 rw[Bool.eq_iff_iff];cases a<;>cases b<;>simp[mH]<;>omega
theorem qz(a b:Int):lA a b=decide (a<b):=by
 rw[Bool.eq_iff_iff];cases a<;>cases b<;>simp[lA]<;>omega
theorem Io(a b:UInt8):n7 a b=decide (a=b):=by
 rw[Bool.eq_iff_iff];simp[n7,wT]
theorem DV(k:IntKind):(2:Int)^k.bits=(dM k:Int):=by cases k<;>rfl
theorem Hy(M:Nat)(b:0<M)(x:Int):(gQ M x:Int)=x%(M:Int):=by
 cases x with
 |ofNat a=>show((a%M:Nat):Int)=_;simp
 |negSucc a=>
  show((M-1-a%M:Nat):Int)=_;have h:=eU a b;rw[Int.negSucc_emod _ aa];omega
theorem api(M:Nat)(a:0<M)(x:Int):gQ M x<M:=by
 have h:=Hy M a x;have:=Int.emod_lt_of_pos x (aa:(0:Int)<M);omega
theorem GC(k:IntKind):0<dM k:=by cases k<;>decide
theorem AT(M m half:Nat)(b:M=2*half)(h:m<M):nN true M m=if(m:Int)≥(half:Int)then(m:Int)-(M:Int)else(m:Int):=by
 unfold nN;by_cases a:M≤2*m
 ·have e:and true (bM M (dQ 2 m))=true:=by rw[Bool.true_and];exact(eZ _ _).2 a
  rw[e,ak aa];show Int.negSucc (M-1-m)=_;omega
 ·have e:and true (bM M (dQ 2 m))=false:=by
   rw[Bool.true_and];exact mY.2 (fun h=>a ((eZ _ _).1 h))
  rw[e,aj aa];rfl
theorem DT(k:IntKind)(m:Nat)(h:m<dM k):nN (pO k) (dM k) m=k.wrap (m:Int):=by
 unfold r8;rw[DV];have a:(m:Int)%(dM k:Int)=m:=Int.emod_eq_of_lt aa aa;simp only[a];cases k
 case i8=>exact(AT 256 m 128 rfl h).trans (by simp[p5,p4,dM])
 case i16=>exact(AT 65536 m 32768 rfl h).trans (by simp[p5,p4,dM])
 case i32=>exact(AT 4294967296 m 2147483648 rfl h).trans (by simp[p5,p4,dM])
 case i64=>exact(AT 18446744073709551616 m 9223372036854775808 rfl h).trans (by simp[p5,p4,dM])
 all_goals rfl
theorem pX(k:IntKind)(x:Int):aC k x=k.wrap x:=by
 unfold aC;rw[DT k _ (api _ (GC k) x)];unfold r8;rw[Hy _ (GC k),DV,Int.emod_emod_of_dvd _ (Int.dvd_refl _)]
structure cR (P:Program) (T:cg):Prop where
 info:∀t i,T.info t=some i→P.info? t=some i
variable{g:TypeId}{E:TypeDesc}
theorem cR.bq{P:Program}{T:cg}(h:cR P T)(e:T.bq g=some E):P.underlying g=some E:=by
 unfold cg.bq at e;obtain⟨i,hi,e⟩:=av.1 e;unfold Program.underlying;rw[h.info g i hi];obtain⟨a,m,l,bytes,f,c,fa,z,d,ms⟩:=i;cases a<;>simp only[]at e⊢
 case named k u=>
  obtain⟨j,b,e⟩:=av.1 e;rw[h.info u j b];simpa using e
 all_goals exact e
theorem R_{f:Value→Option V}(a:∀v x,f v=some x→aJ o x v):∀(l:List Value) (r:List V),uJ f l=some r→bm o r l:=by
 intro l;induction l with
 |nil=>intro r h;cases h;exact .nil
 |cons v l d=>
  intro r h;obtain⟨x,b,h⟩:=av.1 (show ao (f v) (fun x=>ao (uJ f l) fun r=>some (x::r))=some r from h);obtain⟨y,c,h⟩:=av.1 h;cases h;exact .cons (a v x b) (d y c)
theorem C1(g:aG):∀(n:Nat) (v:Value) (x:V),mU n v=some x→aJ g x v:=by
 intro n;induction n with
 |zero=>intro v x h;cases h
 |succ n f=>
  intro v x h;cases v with
  |bool b=>cases h;exact .bool b
  |int k m=>cases h;exact .int k m
  |string s=>obtain⟨⟨l⟩⟩:=s;cases h;exact .str l
  |pointer a=>cases a with
   |none=>cases h;exact .iW
   |some a=>cases h
  |slice a l c=>cases a with
   |none=>cases l with
    |zero=>cases c with
     |zero=>cases h;exact .an
     |succ c=>cases h
    |succ l=>cases h
   |some a=>cases h
  |map r=>cases r with
   |none=>cases h;exact .j3
   |some a=>cases h
  |nilFunc=>cases h;exact .kJ
  |nilIface=>cases h;exact .kK
  |agg d=>
   obtain⟨y,e,h⟩:=av.1 (show ao (uJ (mU n) d.toList) (fun r=>some (V.agg r))=some x from h);cases h;obtain⟨l⟩:=d;exact .agg (R_ f _ _ e)
  |tuple d=>
   obtain⟨y,e,h⟩:=av.1 (show ao (uJ (mU n) d.toList) (fun r=>some (V.az r))=some x from h);cases h;obtain⟨l⟩:=d;exact .az (R_ f _ _ e)
  |_=>cases h
def jF(b:aG)(F:Fr)(a:Array Value):Prop:=∀t,t<a.size→aJ b (F.get V.undef t) (a.getD t undef)
variable{m:Fr}
theorem jF.mono{b:aG}(h:o.le b){a:Array Value}(r:jF o m a):jF b m a:=fun t c=>(r t c).mono h
variable{i:Option Nat}
theorem jF.put{a:Act}(r:jF o m a.tmps){v:V}(d:aJ o v x):jF o (put m i v) (a.put i x).tmps:=by
 cases i with
 |none=>exact r
 |some i=>
  intro t c;have b:t<a.tmps.size:=by simpa [Act.put]using c
  show aJ o ((m.set V.undef i v).get V.undef t) _;rw[aO.aK];by_cases e:i=t
  ·subst e;rw[ak rfl];simpa [Act.put,b]using d
  ·rw[aj e];have:=r t b;simpa [Act.put,Array.getElem?_setIfInBounds_ne e]using this
def jE(b:aG)(F:Fr)(a:Operand→Value)(l:List Operand):Prop:=∀x∈l,∀f,hD x=some f→aJ b (f F) (a x)
def k9(G:Nat)(b:aG):Prop:=∀g,g<G→∃a,b g=some ⟨g,0,a⟩
variable{a:Nat}
theorem k9.mono{c:aG}(h:o.le c)(g:k9 a o):k9 a c:=fun b d=>let⟨l,e⟩:=g b d;⟨l,h _ _ e⟩
def Qj(G n:Nat)(x:Operand):Prop:=match x with
 |.tmp t=>t<n
 |.global g=>g<G
 |_=>True
variable{k:Operand}
theorem Qk{a:Act}(j:jF o m a.tmps)(i:k9 h o)(c:Qj h a.tmps.size k){f:Fr→V}(b:hD k=some f):
 aJ o (f m) (a.eval k):=by
 cases k with
 |tmp t=>cases b;exact j t c
 |const v=>
  obtain⟨y,l,b⟩:=av.1 (show ao (mU 20 v) (fun y=>some (fun _=>y))=some f from b);cases b;exact C1 o _ _ _ l
 |global g=>
  cases b;obtain⟨n,e⟩:=i g c;exact .ptr e
 |func d=>cases b;exact .func d .nil .nil
variable{t:List (Fr→V)}
theorem oH{l:List Operand}(h:iE l=some t):∀ {φ:aG}{F:Fr}{ρ:Operand→Value},jE φ F ρ l→bm φ (vals t F) (l.map ρ):=by
 induction l generalizing t with
 |nil=>cases h;exact fun _=>.nil
 |cons x l e=>
  obtain⟨f,b,h⟩:=av.1 (show ao (hD x) (fun f=>ao (iE l) fun r=>some (f::r))=some t from h);obtain⟨r,c,h⟩:=av.1 h;cases h;intro φ F ρ a;exact .cons (a x aB f b) (e c (fun y d=>a y (by simp[d])))
def qZ(w:World)(c i:Nat):Prop:=(∃v,w.cell? ⟨c,i,none⟩=some v)∧w.frozen? ⟨c,i,none⟩=false
structure hN (w w':World):Prop where
 tape:w'.tape=w.tape
 os:w'.os=w.os
 output:w'.output=w.output
 free:∀ {c i:Nat},qZ w c i→qZ w' c i
 shape:∀(c:Nat) (cs:Array Value) (t:TypeId) (fr:Nat×Nat),w.heap[c]? =some (.cells cs t fr)→∃cs':Array Value,w'.heap[c]? =some (.cells cs' t fr)∧cs'.size=cs.size
theorem hN.refl(w:World):hN w w:=⟨rfl,rfl,rfl,fun h=>h,fun _ a _ _ h=>⟨a,h,rfl⟩⟩
variable{r:World}
theorem hN.trans{a b:World}(h:hN a b)(c:hN b r):hN a r:=⟨c.tape.trans h.tape,c.os.trans h.os,c.output.trans h.output,fun x=>c.free (h.free x),fun k g t d x=>let⟨e,l,i⟩:=h.shape k g t d x;let⟨f,m,j⟩:=c.shape k e t d l;⟨f,m,j.trans i⟩⟩
theorem qZ.of_heap{w':World}(b:w'.heap[a]? =r.heap[a]?)(c:qZ r a h):qZ w' a h:=by
 unfold qZ World.cell? World.frozen? at*;rw[b];exact c
theorem qZ.lt(c:qZ r a h):a<r.heap.size:=by
 obtain⟨⟨v,b⟩,_⟩:=c;unfold World.cell? at b;rcases mj a r.heap.size with h1|h1
 ·exact h1
 ·simp[Array.getElem?_eq_none h1]at b
theorem hN.alloc(w:World)(x:Obj):hN w (w.alloc x):=⟨rfl,rfl,rfl,fun h=>qZ.of_heap (by
 have:=h.lt;show(w.heap.push x)[_]? =_;simp[wA,Nat.ne_of_lt this]) h,fun c a _ _ h=>⟨a,by
 show(w.heap.push x)[c]? =_;rw[wA,aj (Nat.ne_of_lt (wz.1 h).1)];exact h,rfl⟩⟩
def q7(c:aG)(a:List (V×V))(b:List MapEntry):Prop:=
 b.length=a.length∧∀i k v,a[i]? =some (k,v)→∃e:MapEntry,b[i]? =some e∧aJ c k e.key∧aJ c v e.val∧e.born=i
def ur(g:aG)(w:World)(a:Nat):oh→Prop
 |.map b=>∃d,w.heap[a]? =some (.map ⟨d⟩ b.length)∧q7 g b d
 |.iter m since left h e=>∃f seen,g m=some f∧w.heap[a]? =some (.mapIter (some f.c) since ⟨seen⟩ e)∧(seen≠[]→0<e)∧seen.getLast?=h∧(∀i,i<since→i∉seen→i∈left)∧(∀i∈left,i<since∧i∉seen)
 |.ro x=>w.heap[a]? =some x
variable{O:List (V×V)}{S:List MapEntry}
theorem q7.mono{b:aG}(h:o.le b)(r:q7 o O S):q7 b O S:=
 ⟨r.1,fun i k v e=>let⟨x,c,d,f,g⟩:=r.2 i k v e;⟨x,c,d.mono h,f.mono h,g⟩⟩
theorem ur.mono{n:aG}(k:o.le n){l:World}(g:l.heap[h]? =r.heap[h]?){i:oh}(j:ur o r h i):ur n l h i:=by
 cases i with
 |map q=>obtain⟨x,c,f⟩:=j;exact⟨x,g.trans c,f.mono k⟩
 |iter m a b d e=>obtain⟨x,s,c,f,p⟩:=j;exact⟨x,s,k _ _ c,g.trans f,p⟩
 |ro x=>exact g.trans j
structure p0 (φ:aG) (H:af) (w:World) (c:Nat) (x:Obj):Prop where
 obj:w.heap[c]? =some x
 kind:∃cs t fr,x=.cells cs t fr
 off:∀b l,φ b=some l→l.c=c→H.get b=.none
variable{c:af}
theorem p0.lt{x:Obj}(h:p0 o c r a x):a<r.heap.size:=(wz.1 h.obj).1
theorem p0.keep{e:aG}{H':af}{d:World}{x:Obj}(h:p0 o c r a x)(f:d.heap[a]? =r.heap[a]?)(g:∀b l,e b=some l→l.c=a→H'.get b=.none):p0 e H' d a x:=⟨f.trans h.obj,h.kind,g⟩
variable{Q:Loc}
theorem p0.tT{x:Obj}(b:p0 o c r a x)(d:o h=some Q)(f:c.get h≠ .none):Q.c≠a:=fun e=>f (b.off h Q d e)
structure Rel (φ:aG) (H:af) (w:World):Prop where
 cell:∀ {b:Nat}{l:Loc}{cs:List V}{g i:Nat}{v:V},φ b=some l→H.get b=.cells cs g→H.fR b g=true→cs[i]? =some v→∃v',w.cell? ⟨l.c,l.base+i,none⟩=some v'∧aJ φ v v'
 room:∀ {b:Nat}{l:Loc}{i:Nat},φ b=some l→i<l.jM→(∃v',w.cell? ⟨l.c,l.base+i,none⟩=some v')∧w.frozen? ⟨l.c,l.base+i,none⟩=false
 len:∀ {b:Nat}{l:Loc}{cs:List V}{g:Nat},φ b=some l→H.get b=.cells cs g→cs.length≤l.jM
 inj:∀ {b b':Nat}{l l':Loc},φ b=some l→φ b'=some l'→l.c=l'.c→b≠b'→(∃cs cs' g,g≠0∧H.get b=.cells cs g∧H.get b'=.cells cs' g)∨(H.get b=.none∧H.get b'=.none)
 top:∀ {b:Nat},H.next≤b→φ b=none∧H.get b=.none
 loc:∀ {b:Nat}{l:Loc},φ b=some l→l.c<w.heap.size
 mem:∀ {b:Nat}{cs:List V}{g leaf tY:Nat},H.get b=.cells cs g→g≠0→H.get g=.bB leaf tY→b≤leaf
 mF:∀ {g leaf tY:Nat},H.get g=.bB leaf tY→tY≤leaf
 ck:∀ {b:Nat}{l:Loc}{o:oh},φ b=some l→H.get b=.ck o→l.base=0∧ur φ w l.c o
 fC:∀ {c:Nat}{x:Obj},φ.im c=some x→p0 φ H w c x
 mG:∀ {b:Nat}{cs:List V}{g:Nat},H.get b=.cells cs g→g<H.next
structure Ext (φ:aG) (H:af) (w:World) (ψ:aG) (H':af) (w':World):Prop where
 rel:Rel ψ H' w'
 le:φ.le ψ
 fresh:∀ {b:Nat}{l:Loc},φ b=none→ψ b=some l→H.next≤b∧(w.heap.size≤l.c∨∃b0 l0,φ b0=some l0∧l0.c=l.c)
 nX:∀ {b:Nat},b<H.next→φ b=none→(∀x y,H.get b≠ .bB x y)→H'.get b=H.get b
 next:H.next≤H'.next
 lU:∀ {c:Nat},c<w.heap.size→(∀b l,φ b=some l→l.c≠c)→w'.heap[c]? =w.heap[c]?
 size:w.heap.size≤w'.heap.size
 same:hN w w'
 jx:∀ {b:Nat}{l:Loc},φ b=some l→H.get b=.none→H'.get b=.none∧w'.heap[l.c]? =w.heap[l.c]?
 ni:∀(c:Nat) (x:Obj),ψ.im c=some x→φ.im c=some x∨w.heap.size≤c∨∃b l,φ b=some l∧l.c=c∧H.get b≠ .none
theorem Ext.refl(h:Rel o c r):Ext o c r o c r:=
 ⟨h,aG.le_refl o,fun a b=>absurd (a.symm.trans b) aB,fun _ _ _=>rfl,aE _,fun _ _=>rfl,aE _,hN.refl r,fun _ h=>⟨h,rfl⟩,fun _ _ e=>.inl e⟩
variable{H:af}
theorem Ext.trans{p G:aG}{y:af}{E F:World}(h:Ext o c r p H E)(h':Ext p H E G y F):Ext o c r G y F:=by
 refine⟨h'.rel,aG.le_trans h.le h'.le,?_,?_,cy h.next h'.next,?_,cy h.size h'.size,h.same.trans h'.same,fun d m=>let⟨K,L⟩:=h.jx d m;let⟨M,N⟩:=h'.jx (h.le _ _ d) K;⟨M,N.trans L⟩,?_⟩
 rotate_left 3
 ·intro s x e;rcases h'.ni s x e with e|e|⟨b,l,d,m,z⟩
  ·exact h.ni s x e
  ·exact .inr (.inl (cy h.size e))
  ·cases a:o b with
   |some w=>
    have:=h.le b w a;rw[d]at this;cases this;exact .inr (.inr ⟨b,l,a,m,fun j=>z (h.jx a j).1⟩)
   |none=>
    rcases(h.fresh a d).2 with j|⟨f,i,j,A⟩
    ·exact .inr (.inl aa)
    ·refine .inr (.inr ⟨f,i,j,A.trans m,fun I=>?_⟩);rcases h.rel.inj d (h.le f i j) A.symm (fun J=>by rw[J,j]at a;cases a)with⟨Q,R,g,_,_,bA⟩|⟨P,_⟩
     ·rw[(h.jx j I).1]at bA;cases bA
     ·exact z P
 ·intro b l q k;cases n:p b with
  |some w=>
   have:=h'.le b w n;rw[this]at k;cases k;exact h.fresh q n
  |none=>
   obtain⟨h2,t⟩:=h'.fresh n k;refine⟨cy h.next h2,?_⟩
   rcases t with t|⟨f,i,a,d⟩
   ·exact .inl (cy h.size t)
   ·cases u:o f with
    |some O=>
     have:=h.le f O u;rw[this]at a;cases a;exact .inr ⟨f,i,u,d⟩
    |none=>
     obtain⟨_,B⟩:=h.fresh u a;rw[d]at B;exact B
 ·intro b n q D;have k:H.get b=c.get b:=h.nX n q D;have h2:p b=none:=by
   cases e:p b with
   |none=>rfl
   |some l=>exact absurd (h.fresh q e).1 aa
  rw[←k];exact h'.nX (eG n h.next) h2 (by rw[k];exact D)
 ·intro s C v;rw[←h.lU C v];refine h'.lU (eG C h.size) (fun b l e=>?_);cases a:o b with
  |some i=>
   have:=h.le b i a;rw[this]at e;cases e;exact v b l a
  |none=>
   rcases(h.fresh a e).2 with k|⟨f,i,d,m⟩
   ·omega
   ·rw[←m];exact v f i d
structure tL (φ:aG) (zQ:cP) (jM:Nat) (w w':World):Prop where
 size:w'.heap.size=w.heap.size+1
 old:∀c,c<w.heap.size→w'.heap[c]? =w.heap[c]?
 same:hN w w'
 obj:∃cs,zQ=.cells cs 0∧cs.length≤jM∧(∀i v,cs[i]? =some v→∃v',w'.cell? ⟨w.heap.size,i,none⟩=some v'∧aJ φ v v')∧
  (∀i,i<jM→(∃v',w'.cell? ⟨w.heap.size,i,none⟩=some v')∧w'.frozen? ⟨w.heap.size,i,none⟩=false)
def fV(P:Program)(φ:aG)(ρ:Operand→Value)(o:Oper)(r:aY):Prop:=∀w,match r with
 |.val v=>∃a,(execOp ρ o).run P w=.ok (.value a) w∧aJ φ v a
 |.new f g=>∃a d c,(execOp ρ o).run P w=.ok (.value a) d∧tL φ (.cells f 0) c w d∧∀(e:aG) (b:Nat),e b=some ⟨w.heap.size,0,c⟩→aJ e (g.mk b) a
section
variable {P:Program}{φ:aG}{ρ:Operand→Value}{dst:Option Tmp}{ty:TypeId}{pos:String}{after:Array Edge}{guard:Option (Nat×Bool)}
theorem apW(x:Int)(n:Nat):rR x n=x.fdiv (2^n):=by
 have d:(0:Int)<2^n:=Int.pow_pos ag;rw[Int.fdiv_eq_ediv_of_nonneg _ aa];cases x with
 |ofNat a=>
  show((a/2^n:Nat):Int)=_;simp
 |negSucc a=>
  show Int.negSucc (a/2^n)=_;have e:((2:Int)^n)=((2^n:Nat):Int):=aB;have b:=Int.negSucc_ediv a d;rw[b,e];have c:(a:Int).ediv ((2^n:Nat):Int)=((a/2^n:Nat):Int):=rfl;rw[c];omega
theorem Ci(a b:Nat):dU a b=min a b:=by
 unfold dU;by_cases h:a≤b
 ·rw[(eZ a b).2 h];simp;omega
 ·have:bM a b=false:=mY.2 (fun e=>h ((eZ a b).1 e));rw[this];simp;omega
theorem J0(k:IntKind):gK k=k.bits:=by cases k<;>rfl
theorem toNat_ofInt(k:IntKind)(x:Int):(BitVec.ofInt k.bits x).toNat=gQ (dM k) x:=by
 have h:=Hy (dM k) (GC k) x;have e:((2^k.bits:Nat):Int)=(dM k:Int):=by rw[←DV];simp
 rw[BitVec.toNat_ofInt,e,←h];simp
theorem Qx(k:IntKind):2^k.bits=dM k:=by cases k<;>rfl
variable{n:IntKind}{q:Int}{G:aY}
theorem aiX{p:BinOp}{f:IntKind→Int→IntKind→Int→Option aY}(r:BV p=some f){l:IntKind}{a:Int}(b:f n a l q=some G)
 {s:TypeId}{y:Operand} (c:ρ k=.int n a) (d:ρ y=.int l q):fV P φ ρ ⟨dst,.binOp p g k y s,ty,pos,after,guard⟩ G:=by
 intro w;cases p<;>simp only[BV,Option.some.injEq,reduceCtorEq]at r<;>subst r<;>simp only[]at b
 case shl=>
  cases q with
  |ofNat o=>
   cases b;refine⟨_,?_,.int _ _⟩;simp[execOp,eqGuard,c,d,binOp,Op.shift,pX,Ci,J0];intro h;omega
  |negSucc o=>cases b
 case shr=>
  cases q with
  |ofNat o=>
   cases b;refine⟨_,?_,.int _ _⟩;simp[execOp,eqGuard,c,d,binOp,Op.shift,apW,Ci,J0];intro h;omega
  |negSucc o=>cases b
 case quo=>
  obtain⟨i,j⟩:=cH.1 b;clear b;simp[xI,rG]at i;obtain⟨rfl,m⟩:=i;cases j;refine⟨_,?_,.int _ _⟩;simp[execOp,eqGuard,c,d,binOp,Op.intDiv,pX,m]
 case rem=>
  obtain⟨i,j⟩:=cH.1 b;clear b;simp[xI,rG]at i;obtain⟨rfl,m⟩:=i;cases j;refine⟨_,?_,.int _ _⟩;simp[execOp,eqGuard,c,d,binOp,Op.intDiv,m]
 all_goals
  obtain⟨i,j⟩:=cH.1 b;clear b;rw[xI,decide_eq_true_eq]at i;subst i;cases j
 case add=>
  have e:aC n (Int.add a q)=n.wrap (a+q):=pX _ _;rw[e];exact⟨_,by simp[execOp,eqGuard,c,d,binOp,Op.intArith],.int _ _⟩
 case sub=>
  have e:aC n (Int.sub a q)=n.wrap (a-q):=pX _ _;rw[e];exact⟨_,by simp[execOp,eqGuard,c,d,binOp,Op.intArith],.int _ _⟩
 case mul=>
  have e:aC n (Int.mul a q)=n.wrap (a*q):=pX _ _;rw[e];exact⟨_,by simp[execOp,eqGuard,c,d,binOp,Op.intArith],.int _ _⟩
 case and=>
  refine⟨_,?_,.int _ _⟩;have e:Nat.land (gQ (dM n) a) (gQ (dM n) q)=(BitVec.ofInt n.bits a&&&BitVec.ofInt n.bits q).toNat:=by
   rw[BitVec.toNat_and,toNat_ofInt,toNat_ofInt];rfl
  rw[e,DT n _ (by have:=(BitVec.ofInt n.bits a&&&BitVec.ofInt n.bits q).isLt;rwa[Qx]at this)];simp[execOp,eqGuard,c,d,binOp,Op.intBits]
 case or=>
  refine⟨_,?_,.int _ _⟩;have e:Nat.lor (gQ (dM n) a) (gQ (dM n) q)=(BitVec.ofInt n.bits a|||BitVec.ofInt n.bits q).toNat:=by
   rw[BitVec.toNat_or,toNat_ofInt,toNat_ofInt];rfl
  rw[e,DT n _ (by have:=(BitVec.ofInt n.bits a|||BitVec.ofInt n.bits q).isLt;rwa[Qx]at this)];simp[execOp,eqGuard,c,d,binOp,Op.intBits]
 all_goals
  refine⟨_,?_,.bool _⟩;simp[execOp,eqGuard,c,d,binOp,Op.intCmp,rG,qz]
  try first
   |rfl
   |(rw[Bool.eq_iff_iff];simp;done)
   |(rw[Bool.eq_iff_iff];simp;omega)
end
section
variable {P:Program}{φ:aG}{ρ:Operand→Value}{dst:Option Tmp}{ty:TypeId}{pos:String}{after:Array Edge}{guard:Option (Nat×Bool)}
theorem alV(x:List UInt8):∀y,fQ n7 x y=(x==y):=by
 induction x with
 |nil=>intro y;cases y<;>rfl
 |cons a x c=>intro y;cases y with
  |nil=>rfl
  |cons b y=>
   show and (n7 a b) (fQ n7 x y)=_;rw[c y,Io];rfl
variable{j:List UInt8}{G:aY}
theorem aqC{b:BinOp}{f:List UInt8→List UInt8→Option aY}(c:CV b=some f){u:List UInt8}(a:f j u=some G)
 {n:TypeId}{y:Operand} (h:ρ k=.string ⟨⟨j⟩⟩) (i:ρ y=.string ⟨⟨u⟩⟩):fV P φ ρ ⟨dst,.binOp b g k y n,ty,pos,after,guard⟩ G:=by
 intro w;cases b<;>simp only[CV,Option.some.injEq,reduceCtorEq]at c<;>subst c<;>simp only[]at a
 case add=>
  obtain⟨d,m⟩:=cH.1 a;clear a;cases m;rw[eZ,gO,gO]at d;refine⟨_,?_,.str _⟩;have e:=run_string_add_sum (P:=P) w ⟨⟨j⟩⟩ ⟨⟨u⟩⟩ d;have l:=ByteArray.mk_append_mk j u;simp only[execOp,eqGuard,h,i,binOp];simp[e,l,iP]
 all_goals
  cases a;refine⟨_,?_,.bool _⟩;simp[execOp,eqGuard,h,i,binOp,Op.stringOp,alV]
theorem By{b:BinOp}{neg:Bool}(o:b=if neg then .neq else .eql){A:TypeId}{y:Operand}{d:Value}(u:ρ k=x)(v:ρ y=d)
 (f:x≠ .nilIface) (h:∀c,x≠ .agg c) (hi:∀a n,x≠ .int a n) (l:∀a n,x≠ .float a n) (i:∀a n m,x≠ .complex a n m) (q:∀s,x≠ .string s)
 (z:(Op.equalIn (9999+1) g x d).run P r=.ok p r):
 (execOp ρ ⟨dst,.binOp b g k y A,ty,pos,after,guard⟩).run P r=.ok (.value (.bool (xor neg p))) r:=by
 have j:(Op.equal g x d).run P r=.ok p r:=z;cases neg
 ·have e:b=.eql:=o;subst e;simp only[execOp,eqGuard,u,v]
  cases x<;>first
   |exact absurd rfl f
   |exact absurd rfl (h _)
   |exact absurd rfl (hi _ _)
   |exact absurd rfl (l _ _)
   |exact absurd rfl (i _ _ _)
   |exact absurd rfl (q _)
   |(simp[binOp,j])
 ·have e:b=.neq:=o;subst e;simp only[execOp,eqGuard,u,v]
  cases x<;>first
   |exact absurd rfl f
   |exact absurd rfl (h _)
   |exact absurd rfl (hi _ _)
   |exact absurd rfl (l _ _)
   |exact absurd rfl (i _ _ _)
   |exact absurd rfl (q _)
   |(simp[binOp,j])
section
variable {t:TypeId}{w:World} (n:Nat)
theorem ags(c:P.underlying t=some .bool)(a b:Bool):(Op.equalIn (n+1) t (.bool a) (.bool b)).run P w=.ok (a==b) w:=by
 simp[Op.equalIn,run_underlying c w]
theorem agt(a:P.underlying t=some (.slice g))(b:Option Addr)(p q r s:Nat):(Op.equalIn (n+1) t (.slice none p q) (.slice b r s)).run P w=.ok b.isNone w:=by
 simp[Op.equalIn,run_underlying a w]
theorem NM(a:P.underlying t=some (.slice g))(b:Addr)(p q r s:Nat):(Op.equalIn (n+1) t (.slice (some b) p q) (.slice none r s)).run P w=.ok false w:=by
 simp[Op.equalIn,run_underlying a w]
end
variable{s:V}
theorem agr{z:BinOp}{neg:Bool}(d:z=if neg then .neq else .eql){D:TypeId}(c:P.underlying g=some E){a:V}{l:Value}(o:aJ φ a x)(r:aJ φ s l)
 (C:E=.bool∨∃e,E=.slice e) (u:xB E a=true) (b:FH neg [a,s]=some G)
 {y:Operand} (f:ρ k=x) (i:ρ y=l):fV P φ ρ ⟨dst,.binOp z g k y D,ty,pos,after,guard⟩ G:=by
 intro w;rcases C with rfl|⟨e,rfl⟩
 ·cases o<;>simp only[xB,ie]at u;cases r<;>first|(cases b;done)|skip
  rename_i p q;cases b;refine⟨_,By d f i aB aB aB aB aB aB (ags 9999 c p q),?_⟩;have:(p==q)=xor p (!q):=by cases p<;>cases q<;>rfl
  rw[this];exact .bool _
 ·have v:∀ {n:Nat}{m:List V},a=.row n m→s=.an→n≠0∧G=.val (.bool neg):=by
   intro n m A B;subst A B;have h:Bool.casesOn (motive:=fun _=>Option aY) (bn n 0) (some (.val (.bool neg))) aM=some G:=b;cases j:bn n 0 with
   |true=>rw[j]at h;cases h
   |false=>rw[j]at h;cases h;exact⟨(fun e=>by subst e;cases j),rfl⟩
  cases o<;>simp only[xB,ie]at u<;>cases r<;>first|(cases b;done)|skip
  all_goals first
   |exact absurd rfl (v rfl rfl).1
   |(obtain⟨_,rfl⟩:=v rfl rfl
     exact⟨_,By d f i aB aB aB aB aB aB (NM 9999 c _ _ _ _ _),by cases neg<;>exact .bool _⟩)
   |skip
  all_goals
   cases b
   first
   |exact⟨_,By d f i aB aB aB aB aB aB (NM 9999 c _ _ _ _ _),by cases neg<;>exact .bool _⟩
   |exact⟨_,By d f i aB aB aB aB aB aB (agt 9999 c _ _ _ _ _),by cases neg<;>exact .bool _⟩
theorem anC(a:ρ k=.bool p):fV P φ ρ ⟨dst,.unOp .not g k,ty,pos,after,guard⟩ (.val (.bool (!p))):=by
 intro w;exact⟨_,by simp[execOp,a,Op.unary],.bool _⟩
variable{q:Int}
theorem anl{a:IntKind}(b:ρ k=.int a q):fV P φ ρ ⟨dst,.unOp .neg g k,ty,pos,after,guard⟩ (.val (.int a (aC a (Int.sub (.ofNat 0) q)))):=by
 intro w;have e:aC a (Int.sub (.ofNat 0) q)=a.wrap (0-q):=pX _ _;rw[e];exact⟨_,by simp[execOp,b,Op.unary,Op.intArith],.int _ _⟩
theorem amZ{v:V}(a:aJ φ v (ρ k)):fV P φ ρ ⟨dst,.move k,ty,pos,after,guard⟩ (.val v):=
 fun w=>⟨_,by simp[execOp],a⟩
theorem Qs{x y:Operand}(a:ρ k=.bool p){v:V}(b:aJ φ v (if p then ρ x else ρ y)):fV P φ ρ ⟨dst,.pick k x y,ty,pos,after,guard⟩ (.val v):=by
 intro w;exact⟨_,by simp[execOp,a,asBool],b⟩
variable{b:List V}
theorem agQ(c:aJ φ (.az b) (ρ k)){v:V}(f:b[a]? =some v):fV P φ ρ ⟨dst,.extract k a,ty,pos,after,guard⟩ (.val v):=by
 intro w;generalize g:ρ k=y at c
 cases c with
 |az h=>
  obtain⟨i,d,e⟩:=h.get a v f;refine⟨i,?_,e⟩;simp[execOp,g,Instr.extract,d]
theorem P2{a:Addr}(c:ρ k=.pointer (some a)){v:V}(b:aJ φ v (.pointer (some a))):fV P φ ρ ⟨dst,.nilCheck k,ty,pos,after,guard⟩ (.val v):=by
 intro w;exact⟨_,by simp[execOp,c],b⟩
theorem UQ{a f:IntKind}(e:ρ k=.int f q){d:TypeId}{ds:TypeDesc}(c:P.underlying g=some ds)(b:P.underlying d=some (.int a)):
 fV P φ ρ ⟨dst,.convert g d k,ty,pos,after,guard⟩ (.val (.int a (aC a q))):=by
 intro w;rw[pX];exact⟨_,by simp[execOp,e,convert,run_underlying c,run_underlying b,Conv.intToInt],.int _ _⟩
variable{A:FuncId}{T:Array Operand}
theorem amK{c:Array Operand}{a:List V}(f:bm φ a (T.toList.map ρ))(g:bm φ b (c.toList.map ρ)):
 fV P φ ρ ⟨dst,.makeFunc (.func A) T c,ty,pos,after,guard⟩ (.val (.func A a b)):=by
 intro w;refine⟨.func (.func A) (T.map ρ) (c.map ρ),by simp[execOp,Instr.makeFunc],?_⟩;have d:T.map ρ=⟨T.toList.map ρ⟩:=by apply tw;simp
 have e:c.map ρ=⟨c.toList.map ρ⟩:=by apply tw;simp
 rw[d,e];exact .func A f g
end
theorem bm.Qe:∀ {v:List V}{c:List Value},v.length=c.length→(∀(i:Nat) (x:V),v[i]? =some x→∃d,c[i]? =some d∧aJ o x d)→bm o v c:=by
 intro v;induction v with
 |nil=>intro c h _;cases c with
  |nil=>exact .nil
  |cons a b=>simp at h
 |cons a v k=>intro c h f;cases c with
  |nil=>simp at h
  |cons b c=>
   obtain⟨d,e,g⟩:=f 0 a aB;simp at e;subst e;exact .cons g (k (by simpa using h) (fun i x j=>by simpa using f (i+1) x (by simpa using j)))
theorem A0{v:V}(h:aJ o v x)(b:bg v=true):bm o (cellsOf v) x.cells.toList:=by
 cases h with
 |agg h=>exact h
 |any x=>cases b
 |cell a=>
  have:∀x:Value,x.oneCell'=true→x.cells.toList=[x]:=by
   intro x h;cases x<;>first|rfl|cases h
  rw[this _ a];exact .cons (.cell a) .nil
 |_=>exact .cons (by constructor<;>assumption) .nil
theorem z8(a:List f):∀n,(rep a n).length=n*a.length:=by
 intro n;induction n with
 |zero=>simp;rfl
 |succ n b=>
  show(cW a (rep a n)).length=_;rw[iP,aS,b,oe,i_]
theorem apf(b:List f):∀n i,i<n*b.length→(rep b n)[i]? =b[i%b.length]? :=by
 intro n;induction n with
 |zero=>intro i h;omega
 |succ n c=>
  intro i h;show(cW b (rep b n))[i]? =_;rw[iP];by_cases hi:i<b.length
  ·rw[lJ hi,jV hi]
  ·rw[q4 aa,c _ (by rw[oe]at h;omega)];rw[Nat.mod_eq_sub_mod (a:=i) aa]
variable{D:List Value}
theorem bm.getD{v:List V}(h:bm o v D)(hi:a<v.length):∃x b,v[a]? =some x∧D[a]? =some b∧aJ o x b:=by
 obtain⟨b,c,d⟩:=h.get a v[a] (by simp[hi]);exact⟨_,b,by simp[hi],c,d⟩
variable{b:List V}
theorem Hx{z:Array Value}(h:bm o b z.toList)(n:Nat):bm o (rep b n) ((Array.range (n*z.size)).map (z[·%z.size]!)).toList:=by
 have hl:b.length=z.size:=by simpa using h.length
 refine .Qe (by simp[z8,hl]) (fun i x a=>?_);have hi:i<n*b.length:=by
  have:=(fN.1 a).1;rwa[z8]at this
 rw[apf _ _ _ hi]at a;obtain⟨d,c,e⟩:=h.get _ _ a;refine⟨d,?_,e⟩;rw[hl]at hi c;have f:z[i%z.size]? =some d:=by simpa using c
 simp[hi,getElem!_def,f]
theorem ahi(a:Nat):∀(l:List f) (k:Nat) (L:List f),a+k+l.length≤L.length→
 ((l.zipIdx k).foldl (fun(b:Array f) (x:f×Nat)=>b.setIfInBounds (a+x.2) x.1) ⟨L⟩)=⟨L.take (a+k)++l++L.drop (a+k+l.length)⟩:=by
 intro l;induction l with
 |nil=>intro k L h;simp
 |cons c l i=>
  intro k L h;simp only[cL]at h;simp only[List.zipIdx_cons,List.foldl_cons];have e:(⟨L⟩:Array f).setIfInBounds (a+k) c=⟨L.set (a+k) c⟩:=aB;rw[e,i (k+1) _ (by simp;omega)];congr 1;have d:a+(k+1)=(a+k)+1:=aa;rw[d,List.take_set,List.drop_set_of_lt aa];rw[kQ aa];have g:(List.take (a+k) L++[L[a+k]]).set (a+k) c=List.take (a+k) L++[c]:=by
   rw[List.set_append_right _ _ (by simp;omega)];simp;have:a+k-min (a+k) L.length=0:=aa;rw[this];rfl
  rw[g];simp[jl,i_,Nat.add_left_comm]
theorem aqr{a:List V}{g c:Array Value}(h:bm o b g.toList)(d:bm o a c.toList){off:Nat}(k:off+b.length≤a.length):
 bm o (a.take off++b++a.drop (off+b.length)) (g.zipIdx.foldl (fun(a:Array Value) (x:Value×Nat)=>a.setIfInBounds (off+x.2) x.1) c).toList:=by
 have f:=h.length;have j:=d.length;obtain⟨L⟩:=c;obtain⟨l⟩:=g;have e:=ahi off l 0 L (by simp at f j;omega);have i:((⟨l⟩:Array Value).zipIdx.foldl (fun(a:Array Value) (x:Value×Nat)=>a.setIfInBounds (off+x.2) x.1) ⟨L⟩)=((l.zipIdx 0).foldl (fun(a:Array Value) (x:Value×Nat)=>a.setIfInBounds (off+x.2) x.1) ⟨L⟩):=by
  rw[←Array.foldl_toList];simp
 rw[i,e];simp only[cE];simp at f;rw[f];exact((d.take off).append h).append (d.drop (off+l.length))
theorem FV{place:Nat→Option (Nat×Nat)}:∀(b:List (Nat×Nat)) (a:List Nat) (d:List V) (e:List Value) (c r:List V) (f:Array Value),
 a.length=b.length→(∀(j:Nat) (p:Nat×Nat),b[j]? =some p→∃i,a[j]? =some i∧place i=some p)→bm o d e→e.length=b.length→bm o c f.toList→pn b d c=some r→
 ∃m,Instr.fill place f (a.zip e)=some m∧bm o r m.toList:=by
 intro b;induction b with
 |nil=>
  intro a d e c r f l _ w hl k h;cases a with
  |nil=>cases h;exact⟨f,rfl,k⟩
  |cons=>simp at l
 |cons p b K=>
  intro a d e c r f l u w hl k h;cases w with
  |nil=>simp at hl
  |cons I J=>
   rename_i v x d e;cases a with
   |nil=>simp at l
   |cons i a=>
    obtain⟨n,h⟩:=cH.1 (show aQ (and (bg v) (bn (cr (cellsOf v)) p.2)) (ao (cC (cellsOf v) c p.1) fun c=>pn b d c)=some r from h);obtain⟨L,g,h⟩:=av.1 h;rw[cu,beq_eq,gO]at n;obtain⟨z,n⟩:=n;rw[lC]at g;split at g
    ·rename_i A;cases g;have s:=A0 I z;have B:=s.length;have y:=k.length;obtain⟨M,t,D⟩:=u 0 p aB;simp at t;subst t;have G:=aqr (off:=p.1) s k A;obtain⟨m,F,H⟩:=K a d e _ r _ (by simpa using l) (fun j q E=>by simpa using u (j+1) q (by simpa using E)) J (by simpa using hl) G h;refine⟨m,?_,H⟩;simp only[List.zip_cons_cons,Instr.fill,D];have C:¬((decide (x.cells.size≠p.2)||decide (p.1+x.cells.size>f.size))=true):=by
      simp at B y⊢;omega
     rw[aj C];exact F
    ·cases g
theorem zM{a:Array Value}(h:bm o b a.toList)(w:World)(e:TypeId):tL o (.cells b 0) a.size w (w.alloc (.cells a e)):=by
 refine⟨aB,fun c g=>?_,hN.alloc _ _,b,rfl,?_,fun i v j=>?_,fun i hi=>⟨?_,?_⟩⟩
 ·show(w.heap.push _)[c]? =_;simp[wA,Nat.ne_of_lt g]
 ·have:=h.length;simp at this;omega
 ·obtain⟨k,d,f⟩:=h.get i v j;exact⟨k,by rw[World.cell?_alloc_new];simpa using d,f⟩
 ·exact⟨a[i],by rw[World.cell?_alloc_new];simp[hi]⟩
 ·show(match(w.heap.push (.cells a e (0,0)))[w.heap.size]? with|some (.cells _ _ (lo,hi))=>decide (lo≤i)&&decide (i<hi)|_=>false)=false;simp
section
variable {P:Program}{φ:aG}{ρ:Operand→Value}{dst:Option Tmp}{ty:TypeId}{pos:String}{after:Array Edge}{guard:Option (Nat×Bool)}{T:cg}
theorem ap5(hT:cR P T)(h:iQ T g=some a):∃i,P.info? g=some i∧i.size=a:=by
 obtain⟨i,hi,h⟩:=av.1 (show ao (T.info g) (fun i=>some i.size)=some a from h);cases h;exact⟨i,hT.info g i hi,rfl⟩
theorem l6(hT:cR P T)(h:iQ T g=some a)(w:World):(sizeOf g).run P w=.ok a w:=by
 obtain⟨i,hi,rfl⟩:=ap5 hT h;simp[sizeOf,typeInfo,hi]
theorem qM{i:TypeInfo}(h:P.info? g=some i)(w:World):(typeInfo g).run P w=.ok i w:=by
 simp[typeInfo,h]
theorem aq3:∀ {n:Nat}{v:Value}{x:V},mU n v=some x→bg x=true:=by
 intro n v x h;cases n with
 |zero=>cases h
 |succ n=>
  cases v with
  |pointer a=>cases a<;>cases h;rfl
  |slice a l c=>cases a<;>cases l<;>cases c<;>cases h;rfl
  |map r=>cases r<;>cases h;rfl
  |agg b=>
   obtain⟨y,_,h⟩:=av.1 (show ao (uJ (mU n) b.toList) (fun r=>some (V.agg r))=some x from h);cases h;rfl
  |tuple b=>
   obtain⟨y,_,h⟩:=av.1 (show ao (uJ (mU n) b.toList) (fun r=>some (V.az r))=some x from h);cases h;rfl
  |_=>cases h<;>rfl
theorem yH(hT:cR P T)(h:zeroCells T g=some b):∃i z,P.info? g=some i∧i.zero=some z∧∀φ,bm φ b z.cells.toList:=by
 obtain⟨i,hi,h⟩:=av.1 (show ao (T.info g) (fun i=>ao i.zero fun z=>ao (mU 20 z) fun v=>some (cellsOf v))=some b from h);obtain⟨z,c,h⟩:=av.1 h;obtain⟨v,a,h⟩:=av.1 h;cases h;exact⟨i,z,hT.info g i hi,c,fun φ=>A0 (C1 φ _ _ _ a) (aq3 a)⟩
theorem s8{i:TypeInfo}(h:P.info? g=some i)(a:i.zero=some x)(w:World):(zeroValue g).run P w=.ok x w:=by
 simp[zeroValue,typeInfo,h,a]
theorem CI(hT:cR P T)(h:T.isAgg g=some p)(w:World):(isAgg g).run P w=.ok p w:=by
 obtain⟨d,a,h⟩:=av.1 (show ao (T.bq g) _=some p from h);have b:=run_underlying (hT.bq a) w;cases d<;>simp only[Option.some.injEq]at h<;>subst h<;>simp[isAgg,b]
theorem Tg(hT:cR P T)(h:zeroCells T g=some b):fV P φ ρ ⟨dst,.alloc g,ty,pos,after,guard⟩ (.new b .ptr):=by
 obtain⟨i,z,hi,d,c⟩:=yH hT h;intro w;refine⟨_,_,_,?_,zM (c φ) w g,fun f e a=>.ptr a⟩;simp[execOp,Instr.alloc,s8 hi d,newVar,newRow]
theorem TO{v:V}(h:aJ φ v (ρ k))(c:bg v=true):fV P φ ρ ⟨dst,.box g k,ty,pos,after,guard⟩ (.new (cellsOf v) .ptr):=by
 intro w;refine⟨_,_,_,?_,zM (A0 h c) w g,fun d b a=>.ptr a⟩;simp[execOp,Instr.box,newVar,newRow]
theorem xW{f:Nat→Option (Nat×Nat)}:∀ {l:List (Nat×Operand)}{r:List (Nat×Nat)×List (Fr→V)},placesOf f l=some r→
 r.1.length=l.length∧(∀(j:Nat) (p:Nat×Nat),r.1[j]? =some p→∃i,(l.map (·.1))[j]? =some i∧f i=some p)∧iE (l.map (·.2))=some r.2:=by
 intro l;induction l with
 |nil=>intro r h;cases h;exact⟨rfl,fun j p h=>by simp at h,rfl⟩
 |cons x l m=>
  intro r h;obtain⟨q,e,h⟩:=av.1 (show ao (f x.1) (fun q=>ao (hD x.2) fun y=>ao (placesOf f l) fun r=>some (q::r.1,y::r.2))=some r from h);obtain⟨y,k,h⟩:=av.1 h;obtain⟨s,g,h⟩:=av.1 h;cases h;obtain⟨b,c,d⟩:=m g;refine⟨by simp[b],fun j p a=>?_,?_⟩
  ·cases j with
   |zero=>simp at a;subst a;exact⟨x.1,aB,e⟩
   |succ j=>simpa using c j p (by simpa using a)
  ·show ao (hD x.2) (fun f=>ao (iE (l.map (·.2))) fun r=>some (f::r))=_;rw[k,d];rfl
theorem parts_eq(ρ:Operand→Value)(parts:Array (Nat×Operand)):(parts.map fun(x:Nat×Operand)=>(x.1,ρ x.2)).toList=(parts.toList.map (·.1)).zip ((parts.toList.map (·.2)).map ρ):=by
 obtain⟨l⟩:=parts;induction l with
 |nil=>simp
 |cons a l b=>simp at b⊢;exact b
theorem dz{x:Option bP}{c:bP}(h:iD x=c)(a:c≠ .bad):x=some c:=by
 cases x with
 |none=>exact absurd h.symm a
 |some y=>exact congrArg some h
theorem ahd(hT:cR P T)(w:World):∀ {l:List Field}{a:List (Nat×Nat)},BK T l=some a→(l.mapM fun f=>(do let s←sizeOf f.type;pure (f.offset,s):Sem (Nat×Nat))).run P w=.ok a w:=by
 intro l;induction l with
 |nil=>intro a h;cases h;rfl
 |cons f l d=>
  intro a h;obtain⟨s,c,h⟩:=av.1 (show ao (iQ T f.type) (fun s=>ao (BK T l) fun r=>some ((f.offset,s)::r))=some a from h);obtain⟨r,b,h⟩:=av.1 h;cases h;have:=d b;rw[List.mapM_cons];simp only[cU,l6 hT c,dV,fO,this]
variable{C:List V→Option aY}{G:aY}
theorem TQ{parts:Array (Nat×Operand)}(hT:cR P T)(N:D3 T g parts.toList=.pu t C)
 (F:jE φ m ρ (parts.toList.map (·.2))) (a:C (vals t m)=some G):fV P φ ρ ⟨dst,.build g parts,ty,pos,after,guard⟩ G:=by
 have h:=dz N aB;obtain⟨L,U,h⟩:=av.1 h;obtain⟨i,z,hi,J,H⟩:=yH hT U;obtain⟨d,O,h⟩:=av.1 h;have I:=run_underlying (hT.bq O);intro w;cases d<;>simp only[reduceCtorEq]at h
 case struct M=>
  obtain⟨K,R,h⟩:=av.1 h;obtain⟨q,B,h⟩:=av.1 h;cases h;obtain⟨b,u,v⟩:=xW B;obtain⟨r,x,a⟩:=av.1 a;cases a;have E:=oH v F;have Q:(M.mapM fun f=>(do let s←sizeOf f.type;pure (f.offset,s):Sem (Nat×Nat))).run P w=.ok ⟨K⟩ w:=by
   rw[Array.mapM_eq_mapM_toList];simp only[Sem.run_map,ahd hT w R,dV]
  obtain⟨k,c,D⟩:=FV (place:=((⟨K⟩:Array (Nat×Nat))[·]?)) q.1 (parts.toList.map (·.1)) _ _ L r z.cells (by simp[b]) (fun j p A=>by
   obtain⟨i,y,o⟩:=u j p A;exact⟨i,y,by rw[gF]at o;simpa using o⟩) E (by simp[b]) (H φ) x
  refine⟨.agg k,?_,?_⟩
  ·simp only[execOp,Instr.build];rw[←parts_eq]at c;simp only[cU,s8 hi J,dV,I,Q,c,fO]
  ·obtain⟨l⟩:=k;exact .agg D
 case array n e=>
  obtain⟨s,S,h⟩:=av.1 h;obtain⟨q,B,h⟩:=av.1 h;cases h;obtain⟨b,u,v⟩:=xW B;obtain⟨r,x,a⟩:=av.1 a;cases a;have E:=oH v F;obtain⟨k,c,D⟩:=FV (place:=fun i=>some (i*s,s)) q.1 (parts.toList.map (·.1)) _ _ L r z.cells (by simp[b]) (fun j p A=>by
   obtain⟨i,y,o⟩:=u j p A;exact⟨i,y,o⟩) E (by simp[b]) (H φ) x
  refine⟨.agg k,?_,?_⟩
  ·simp only[execOp,Instr.build];rw[←parts_eq]at c;simp only[cU,s8 hi J,dV,I,l6 hT S,c,fO]
  ·obtain⟨l⟩:=k;exact .agg D
end
theorem u7{v:V}(b:gm v=some h):∃k,v=.int k (h:Int):=by
 cases v with
 |int k m=>cases m with
  |ofNat a=>cases b;exact⟨k,rfl⟩
  |negSucc a=>cases b
 |_=>cases b
section
variable {P:Program}{φ:aG}{ρ:Operand→Value}{dst:Option Tmp}{ty:TypeId}{pos:String}{after:Array Edge}{guard:Option (Nat×Bool)}{T:cg}
variable{C:List V→Option aY}{G:aY}
theorem TP{parts:Array (Nat×Operand)}(hT:cR P T)(H:D4 T g a parts.toList=.pu t C)
 (N:jE φ m ρ (parts.toList.map (·.2))) (l:C (vals t m)=some G):fV P φ ρ ⟨dst,.buildSlice g a parts,ty,pos,after,guard⟩ G:=by
 have h:=dz H aB;obtain⟨d,J,h⟩:=av.1 h;have y:=run_underlying (hT.bq J);intro w;cases d<;>simp only[reduceCtorEq]at h
 case slice e=>
  obtain⟨s,v,h⟩:=av.1 h;obtain⟨o,h⟩:=cH.1 h;obtain⟨k,U,h⟩:=av.1 h;obtain⟨i,z,hi,V,u⟩:=yH hT U;obtain⟨q,O,h⟩:=av.1 h;obtain⟨x,h⟩:=cH.1 h;cases h;obtain⟨n,D,E⟩:=xW O;obtain⟨B,I,l⟩:=av.1 l;cases l;rw[eZ]at o;rw[beq_eq,gO]at x;have W:z.cells.size=s:=by have:=(u φ).length;simp at this;omega
  have S:=oH E N;have R:bm φ (rep k a) ((Array.range (a*s)).map ((if a*s=0 then #[]else z.cells)[·%(if a*s=0 then #[]else z.cells).size]!)).toList:=by
   by_cases c:a*s=0
   ·simp only[c,if_true];have:rep k a=[]:=by
     have:=z8 k a;rw[x,c]at this;exact oT this
    rw[this];simpa using bm.nil
   ·simp only[c,if_false];have:=Hx (u φ) a;rw[W]at this⊢;exact this
  obtain⟨A,f,Q⟩:=FV (place:=fun i=>some (i*s,s)) q.1 (parts.toList.map (·.1)) _ _ (rep k a) B _ (by simp[n]) (fun j p M=>by
   obtain⟨i,K,L⟩:=D j p M;exact⟨i,K,L⟩) S (by simp[n]) R I
  rw[←parts_eq]at f;refine⟨.slice (some ⟨w.heap.size,0,none⟩) a a,w.alloc (.cells A e),A.size,?_,zM Q w e,fun X b F=>.slice F (aE _) rfl⟩;simp only[execOp,Instr.buildSlice];have r:¬(a*s>2^24):=by
   have:a*s≤16777216:=o;omega
  by_cases c:a*s=0
  ·simp only[ak c]at f;simp only[cU,y,dV,l6 hT v,aj r,ak c,fO,f,newRow,run_newObj];simp
  ·simp only[aj c]at f;simp only[cU,y,dV,l6 hT v,aj r,aj c,s8 hi V,fO,f,newRow,run_newObj];simp
variable{s:V}
theorem amN{e:TypeId}{y:Operand}{i:TypeInfo}(hT:cR P T)(v:T.bq g=some (.slice e))(hi:T.info e=some i)(K:zeroCells T e=some b)(C:b.length=i.size)
 {a:V} (o:aJ φ a (ρ k)) (j:aJ φ s (ρ y)) (f:mL i.bytes b [a,s]=some G):fV P φ ρ ⟨dst,.makeSlice g k y,ty,pos,after,guard⟩ G:=by
 intro w;have E:=run_underlying (hT.bq v);obtain⟨d,z,l,L,p⟩:=yH hT K;have A:d=i:=by have:=hT.info e i hi;rw[l]at this;exact Option.some.inj this
 subst A;obtain⟨n,h,f⟩:=av.1 (show ao (gm a) _=some G from f);obtain⟨c,t,f⟩:=av.1 f;obtain⟨m,f⟩:=cH.1 f;obtain⟨r,f⟩:=cH.1 f;cases f;rw[cu,eZ,eZ]at m;rw[eZ]at r;obtain⟨O,rfl⟩:=u7 h;obtain⟨Q,rfl⟩:=u7 t;generalize I:ρ k=R at o
 generalize J:ρ y=S at j
 cases o;cases j;have q:n≤c∧c*d.bytes≤1099511627776:=m;have F:IntKind.i64.wrap (n:Int)=n:=by simp[r8,p4,p5];omega
 have H:IntKind.i64.wrap (c:Int)=c:=by simp[r8,p4,p5];omega
 have M:z.cells.size=d.size:=by have:=(p φ).length;simp at this;omega
 have N:¬((d.bytes:Int)*(c:Int)>2^48):=by
  have:((c*d.bytes:Nat):Int)≤1099511627776:=aa;rw[fU,Int.mul_comm]at this;omega
 have u:((decide ((c:Int)<0)||decide ((d.bytes:Int)*(c:Int)>2^48))||decide ((n:Int)<0)||decide ((n:Int)>c))=false:=by
  simp;omega
 have B:bm φ (rep b c) ((Array.range (c*d.size)).map ((if c*d.size=0 then #[]else z.cells)[·%(if c*d.size=0 then #[]else z.cells).size]!)).toList:=by
  by_cases h:c*d.size=0
  ·simp only[h,if_true];have:rep b c=[]:=by
    have:=z8 b c;rw[C,h]at this;exact oT this
   rw[this];simpa using bm.nil
  ·simp only[h,if_false];have:=Hx (p φ) c;rw[M]at this⊢;exact this
 refine⟨.slice (some ⟨w.heap.size,0,none⟩) n c,_,_,?_,zM B w e,fun U s j=>.slice j q.1 rfl⟩;have x:=qM (P:=P) l;have D:(sizeOf e).run P=fun w=>.ok d.size w:=by funext w;simp[sizeOf,qM l]
 simp only[execOp,Instr.makeSlice,I,J,asInt,asIntOf];simp only[cU,E,dV,fO,x,F,H,u,ie,if_false,run_askRoom,D,bJ];by_cases h:c*d.size=0
 ·simp[h,newRow]
 ·simp[h,newRow,s8 l L]
end
theorem mu(c b n:Nat):(⟨c,b,none⟩:Addr).add n=⟨c,b+n,none⟩:=by
 unfold Addr.add;split<;>simp_all
section
variable {P:Program}{φ:aG}{ρ:Operand→Value}{dst:Option Tmp}{ty:TypeId}{pos:String}{after:Array Edge}{guard:Option (Nat×Bool)}{T:cg}
variable{G:aY}
theorem ag4{e:Array Field}{d:Field}(hT:cR P T)(n:T.bq g=some (.struct e))(p:e.toList[a]? =some d)(q:iQ T d.type=some h)(m:h≠0)
 {v:V} (f:aJ φ v (ρ k)) (j:xA d.offset [v]=some G):fV P φ ρ ⟨dst,.fieldAddr g k a,ty,pos,after,guard⟩ G:=by
 intro w;generalize r:ρ k=B at f
 cases f<;>first|(cases j;done)|skip
 ·rename_i b o l t;cases j;refine⟨.pointer (some ⟨l.c,l.base+(o+d.offset),none⟩),?_,.ptr t⟩;have i:e[a]? =some d:=by simpa using p
  simp only[execOp,Instr.fieldAt,r];simp only[cU,run_underlying (hT.bq n),dV,i,wE,fO,fieldPlace,l6 hT q,aj m,mu];simp[jl]
 ·rename_i x s o z A y hi u f;cases j;refine⟨.pointer (some ⟨s,o+(x+d.offset),none⟩),?_,.cY hi u f⟩;have i:e[a]? =some d:=by simpa using p
  simp only[execOp,Instr.fieldAt,r];simp only[cU,run_underlying (hT.bq n),dV,i,wE,fO,fieldPlace,l6 hT q,aj m,mu];simp[jl]
variable{s:V}
theorem aiR{e:TypeId}{y:Operand}(hT:cR P T)(q:T.bq g=some (.slice e))(r:iQ T e=some h){a:V}(p:aJ φ a (ρ k))(hi:aJ φ s (ρ y))(d:dJ none h [a,s]=some G):
 fV P φ ρ ⟨dst,.indexAddr g k y,ty,pos,after,guard⟩ G:=by
 intro w;obtain⟨m,D,n⟩:=av.1 (show ao (gm s) _=some G from d);clear d;obtain⟨J,rfl⟩:=u7 D;generalize t:ρ k=L at p
 generalize u:ρ y=M at hi
 cases hi;cases p<;>first|(cases n;done)|skip
 ·rename_i b o f F x l B A I;obtain⟨j,d⟩:=cH.1 (show aQ (bM (Nat.succ m) f) _=some G from n);cases d;rw[eZ]at j;refine⟨.pointer (some ⟨l.c,l.base+(o+m*h),none⟩),?_,.ptr B⟩;have i:0≤(m:Int)∧(m:Int)<(f:Int):=aa;simp only[execOp,Instr.indexAt,t,u,asIntOf];simp only[cU,fO,dV,run_underlying (hT.bq q),ak i,l6 hT r,bJ,mu];simp[jl]
 ·rename_i f v o x H K z hi C E A;obtain⟨j,d⟩:=cH.1 (show aQ (bM (Nat.succ m) f) _=some G from n);cases d;rw[eZ]at j;refine⟨.pointer (some ⟨v,o+(m*h),none⟩),?_,.cY hi C E⟩;have i:0≤(m:Int)∧(m:Int)<(f:Int):=aa;simp only[execOp,Instr.indexAt,t,u,asIntOf];simp only[cU,fO,dV,run_underlying (hT.bq q),ak i,l6 hT r,bJ,mu]
variable{u:Nat}
theorem aiQ{e:TypeId}{y:Operand}(hT:cR P T)(p:T.bq g=some (.array u e))(q:iQ T e=some h){a:V}(n:aJ φ a (ρ k))(hi:aJ φ s (ρ y))(d:dJ (some u) h [a,s]=some G):
 fV P φ ρ ⟨dst,.indexAddr g k y,ty,pos,after,guard⟩ G:=by
 intro w;obtain⟨m,B,j⟩:=av.1 (show ao (gm s) _=some G from d);clear d;obtain⟨F,rfl⟩:=u7 B;generalize r:ρ k=I at n
 generalize t:ρ y=J at hi
 cases hi;cases n<;>first|(cases j;done)|skip
 ·rename_i b o l x;obtain⟨i,d⟩:=cH.1 (show aQ (bM (Nat.succ m) u) _=some G from j);cases d;rw[eZ]at i;refine⟨.pointer (some ⟨l.c,l.base+(o+m*h),none⟩),?_,.ptr x⟩;have f:0≤(m:Int)∧(m:Int)<(u:Int):=aa;simp only[execOp,Instr.indexAt,r,t,asIntOf];simp only[cU,fO,dV,run_underlying (hT.bq p),wE,ak f,l6 hT q,bJ,mu];simp[jl]
 ·rename_i D v o E H z hi A C;obtain⟨i,d⟩:=cH.1 (show aQ (bM (Nat.succ m) u) _=some G from j);cases d;rw[eZ]at i;refine⟨.pointer (some ⟨v,o+(D+m*h),none⟩),?_,.cY hi A C⟩;have f:0≤(m:Int)∧(m:Int)<(u:Int):=aa;simp only[execOp,Instr.indexAt,r,t,asIntOf];simp only[cU,fO,dV,run_underlying (hT.bq p),wE,ak f,l6 hT q,bJ,mu];simp[jl]
theorem aiU{y:Operand}(i:P.underlying g=some .string){a:V}(f:aJ φ a (ρ k))(hi:aJ φ s (ρ y))(c:kF [a,s]=some G):
 fV P φ ρ ⟨dst,.index g k y,ty,pos,after,guard⟩ G:=by
 intro w;generalize p:ρ k=t at f
 generalize q:ρ y=u at hi
 cases f<;>first|(cases c;done)|skip
 rename_i e;obtain⟨m,n,c⟩:=av.1 (show ao (gm s) _=some G from c);obtain⟨r,rfl⟩:=u7 n;cases hi;obtain⟨b,d,c⟩:=av.1 c;cases c;rw[gF]at d;refine⟨_,?_,.int _ _⟩;have h:(⟨⟨e⟩⟩:ByteArray)[m]? =some b:=by
  have l:=(fN.1 d).1;have j:=(fN.1 d).2;have o:m<(⟨⟨e⟩⟩:ByteArray).size:=l;rw[getElem?_pos (⟨⟨e⟩⟩:ByteArray) m o];exact congrArg some j
 simp only[execOp,Instr.index,p,q,asIntOf];simp only[cU,fO,dV,run_underlying i,uR,if_true,bJ,h];rfl
end
def lg(φ:aG):Option V→Option Value→Prop
 |none,none=>True
 |some v,some a=>aJ φ v a
 |_,_=>False
section
variable {P:Program}{φ:aG}{ρ:Operand→Value}{dst:Option Tmp}{ty:TypeId}{pos:String}{after:Array Edge}{guard:Option (Nat×Bool)}{T:cg}
theorem s6{v:V}(c:aJ φ v x)(d:gm v=some a)(e:a≤h)(b:BoundsCode)(w:World):(Instr.sliceBound x h b).run P w=.ok a w:=by
 obtain⟨k,rfl⟩:=u7 d;cases c;have f:0≤(a:Int)∧(a:Int)≤(h:Int):=aa;simp[Instr.sliceBound,asIntOf,e]
def J2(x:Option V)(d n:Nat):Prop:=match x with
 |none=>n=d
 |some v=>gm v=some n
variable{u:Nat}{L:Nat}
theorem sB{lo hi:Option V}(b:jI lo hi a h=some (u,L)):
 J2 hi a L∧J2 lo 0 u∧L≤h∧u≤L:=by
 obtain⟨f,d,b⟩:=av.1 b;obtain⟨g,e,b⟩:=av.1 b;obtain⟨c,b⟩:=cH.1 b;cases b;rw[cu,eZ,eZ]at c;refine⟨?_,?_,c.1,c.2⟩
 ·cases hi with
  |none=>cases d;rfl
  |some v=>exact d
 ·cases lo with
  |none=>cases e;rfl
  |some v=>exact e
theorem s7{nq:Bool}{lo hi:Option V}{c f:Option Value}(rl:lg φ lo c)(g:lg φ hi f){j:Nat}(e:jI lo hi a h=some (L,j))(m:h≤u)(w:World):
 (r7 nq a u c f none).run P w=.ok (L,j,u) w:=by
 obtain⟨d,b,k,l⟩:=sB e;cases hi with
 |none=>
  cases f with
  |some v=>exact g.elim
  |none=>
   have n:j=a:=d;clear d e;subst n;cases lo with
   |none=>cases c with
    |some v=>exact rl.elim
    |none=>
     have i:L=0:=b;clear b
     try clear e
     subst i;simp[r7]
   |some v=>cases c with
    |none=>exact rl.elim
    |some o=>simp[r7,s6 (P:=P) rl b l]
 |some p=>
  cases f with
  |none=>exact g.elim
  |some q=>
   cases lo with
   |none=>cases c with
    |some v=>exact rl.elim
    |none=>
     have i:L=0:=b;clear b
     try clear e
     subst i;simp[r7,s6 (P:=P) g d (cy k m)]
   |some v=>cases c with
    |none=>exact rl.elim
    |some o=>simp[r7,s6 (P:=P) rl b l,s6 (P:=P) g d (cy k m)]
variable{s:V}
theorem Aa{nq:Bool}{lo hi:Option V}{b d:Option Value}(rl:lg φ lo b)(e:lg φ hi d)(p:hi.isSome=true)(m:aJ φ s x)(l:gm s=some a){f:Nat}
 (j:jI lo hi h a=some (L,f)) (k:a≤u) (w:World):(r7 nq h u b d (some x)).run P w=.ok (L,f,a) w:=by
 obtain⟨g,c,i,o⟩:=sB j;cases hi with
 |none=>simp at p
 |some q=>
  cases d with
  |none=>exact e.elim
  |some r=>
   cases lo with
   |none=>cases b with
    |some v=>exact rl.elim
    |none=>
     have n:L=0:=c;clear c
     try clear j
     subst n;simp[r7,s6 (P:=P) m l k,s6 (P:=P) e g i]
   |some v=>cases b with
    |none=>exact rl.elim
    |some t=>simp[r7,s6 (P:=P) m l k,s6 (P:=P) rl c o,s6 (P:=P) e g i]
variable{j:List UInt8}{G:aY}
theorem aqi(k:P.underlying g=some .string){lo hi:Option V}{e d:Option Value}(rl:lg φ lo e)(n:lg φ hi d)(a:v9 j lo hi=some G)(w:World):
 ∃v f,G=.val v∧(Instr.sliceAt g (.string ⟨⟨j⟩⟩) e d none).run P w=.ok f w∧aJ φ v f:=by
 obtain⟨⟨l,h⟩,c,a⟩:=av.1 a;obtain⟨u,b,a⟩:=av.1 a;cases a;rw[gO]at c;have i:=s7 (P:=P) (nq:=false) rl n c (aE _);rw[e4,kG]at b;split at b
 ·cases b;refine⟨_,.string ((⟨⟨j⟩⟩:ByteArray).extract l h),rfl,?_,?_⟩
  ·have m:(⟨⟨j⟩⟩:ByteArray).size=j.length:=rfl;simp only[Instr.sliceAt,Instr.slice,cU,run_underlying k,dV,m];simp[i]
  ·have:(⟨⟨j⟩⟩:ByteArray).extract l h=⟨⟨(j.drop l).take (h-l)⟩⟩:=by
    apply ByteArray.ext;simp[ByteArray.data_extract]
   rw[this];exact .str _
 ·cases b
theorem qP{e:TypeId}(hT:cR P T)(j:T.bq g=some (.slice e))(k:iQ T e=some h){a:Option Addr}{d c f:Option Value}{l b m:Nat}
 (i:(r7 true u L d c f).run P r=.ok (l,b,m) r):
 (Instr.sliceAt g (.slice a u L) d c f).run P r=.ok (.slice (if m=l then a else a.map (·.add (l*h))) (b-l) (m-l)) r:=by
 simp only[Instr.sliceAt,Instr.slice,cU,run_underlying (hT.bq j),dV,i,l6 hT k,fO]
theorem CP{n:Nat}{lo hi:Option V}(f:φ a=some Q)(d:qO a h u L n lo hi=some G):
 ∃v i b,G=.val v∧jI lo hi u L=some (i,b)∧aJ φ v (.slice (if L=i then some ⟨Q.c,Q.base+h,none⟩else(some (⟨Q.c,Q.base+h,none⟩:Addr)).map (·.add (i*n))) (b-i) (L-i)):=by
 obtain⟨⟨i,b⟩,g,d⟩:=av.1 d;cases d;obtain⟨_,_,j,k⟩:=sB g;refine⟨_,i,b,rfl,g,?_⟩;by_cases e:L=i
 ·subst e;have:bn L L=true:=(beq_eq _ _).2 rfl;simp only[this,if_true];exact .slice f (by show b-L≤L-L;omega) rfl
 ·have:bn L i=false:=mY.2 (fun b=>e ((beq_eq _ _).1 b));simp only[this,aj e,Option.map_some,mu];have:Q.base+h+i*n=Q.base+(h+i*n):=aa;rw[this];exact .slice f (by show b-i≤L-i;omega) rfl
theorem aqe{k n:Nat}{lo hi:Option V}(g:φ a=some Q)(_:u≤L)(m:k≤L)(b:Ag a h u k lo hi=some G):
 ∃v i d,G=.val v∧jI lo hi u k=some (i,d)∧aJ φ v (.slice (if L=i then some ⟨Q.c,Q.base+h,none⟩else(some (⟨Q.c,Q.base+h,none⟩:Addr)).map (·.add (i*n))) (d-i) (L-i)):=by
 obtain⟨⟨i,d⟩,f,b⟩:=av.1 b;obtain⟨e,b⟩:=cH.1 b;cases b;obtain⟨_,_,j,l⟩:=sB f;have e:i=0:=(beq_eq _ _).1 e;subst e;refine⟨_,0,d,rfl,f,?_⟩;have key:(if L=0 then some (⟨Q.c,Q.base+h,none⟩:Addr)else(some (⟨Q.c,Q.base+h,none⟩:Addr)).map (·.add (0*n)))=some ⟨Q.c,Q.base+h,none⟩:=by
  split
  ·rfl
  ·simp only[Option.map_some,mu,jb,cE]
 rw[key];exact .slice g aa (by show k≤L-0;omega)
theorem RO{n:Nat}{f:Cap}(l:f=.nw∨f=.grown n){lo hi:Option V}(k:φ a=some Q)(o:u≤L)(j:Kz f L h Q.jM)(d:v_ a h u f n lo hi=some G):
 ∃v i b,G=.val v∧jI lo hi u u=some (i,b)∧aJ φ v (.slice (if L=i then some ⟨Q.c,Q.base+h,none⟩else(some (⟨Q.c,Q.base+h,none⟩:Addr)).map (·.add (i*n))) (b-i) (L-i)):=by
 obtain⟨⟨i,b⟩,g,d⟩:=av.1 d;obtain⟨_,_,q,r⟩:=sB g;have m:(i=0∨i<u)∨¬(i=0∨i<u):=Classical.em _;rcases m with hc|hc
 ·have e:or (fh i) (bM (Nat.succ i) u)=true:=by
   simp only[fh,r3,beq_eq,eZ];exact hc
  simp only[e]at d;cases d;refine⟨_,i,b,rfl,g,?_⟩;have key:(if L=i then some (⟨Q.c,Q.base+h,none⟩:Addr)else(some (⟨Q.c,Q.base+h,none⟩:Addr)).map (·.add (i*n)))=some ⟨Q.c,Q.base+(h+i*n),none⟩:=by
   split
   ·have:i=0:=aa;subst this;simp
   ·simp only[Option.map_some,mu];have:Q.base+h+i*n=Q.base+(h+i*n):=aa;rw[this]
  rw[key];refine .slice k (by show b-i≤L-i;omega) ?_;rcases l with rfl|rfl
  ·trivial
  ·have p:h+L*n≤Q.jM:=j;show h+i*n+(L-i)*n≤Q.jM;have:(L-i)*n+i*n=L*n:=by rw[←cF];congr 1;omega
   omega
 ·have e:or (fh i) (bM (Nat.succ i) u)=false:=by
   apply mY.2;simp only[fh,ne_eq,r3,beq_eq,eZ];exact hc
  simp only[e]at d;cases d;refine⟨_,i,b,rfl,g,?_⟩;have:b-i=0:=aa;rw[this];split
  ·exact .emp _ _
  ·simp only[Option.map_some];exact .emp _ _
end
section
variable {P:Program}{φ:aG}{ρ:Operand→Value}{dst:Option Tmp}{ty:TypeId}{pos:String}{after:Array Edge}{guard:Option (Nat×Bool)}{T:cg}
variable{G:aY}
theorem HU{lo hi mx:Option Operand}(h:iE (k::cW (j4 lo) (cW (j4 hi) (j4 mx)))=some t)
 (u:jE φ m ρ (k::(lo.toList++hi.toList++mx.toList))) {g:V→Option V→Option V→Option V→Option aY} (i:slice3 g lo.isSome hi.isSome mx.isSome (vals t m)=some G):
 ∃a l h p,aJ φ a (ρ k)∧lg φ l (lo.map ρ)∧lg φ h (hi.map ρ)∧lg φ p (mx.map ρ)∧(p.isSome=true→h.isSome=true)∧g a l h p=some G:=by
 have j:bm φ (vals t m) ((k::cW (j4 lo) (cW (j4 hi) (j4 mx))).map ρ):=oH h (fun y v f s=>u y (by
  cases lo<;>cases hi<;>cases mx<;>exact v) f s)
 generalize vals t m=l at j i
 cases lo<;>cases hi<;>cases mx
 ·cases j with|cons c b=>cases b;exact⟨_,none,none,none,c,trivial,trivial,trivial,aB,i⟩
 ·cases j with|cons c b=>cases b with|cons e d=>cases d;cases i
 ·cases j with|cons c b=>cases b with|cons e d=>cases d;exact⟨_,none,some _,none,c,trivial,e,trivial,aB,i⟩
 ·cases j with|cons c b=>cases b with|cons e d=>cases d with|cons o n=>cases n;exact⟨_,none,some _,some _,c,trivial,e,o,aB,i⟩
 ·cases j with|cons c b=>cases b with|cons e d=>cases d;exact⟨_,some _,none,none,c,e,trivial,trivial,aB,i⟩
 ·cases j with|cons c b=>cases b with|cons e d=>cases d with|cons o n=>cases n;cases i
 ·cases j with|cons c b=>cases b with|cons e d=>cases d with|cons o n=>cases n;exact⟨_,some _,some _,none,c,e,o,trivial,aB,i⟩
 ·cases j with|cons c b=>cases b with|cons e d=>cases d with|cons o n=>cases n with|cons q r=>cases r;exact⟨_,some _,some _,some _,c,e,o,q,aB,i⟩
theorem aqh{lo hi mx:Option Operand}(j:P.underlying g=some .string){a:V}{l h m:Option V}(b:aJ φ a (ρ k))(rl:lg φ l (lo.map ρ))(q:lg φ h (hi.map ρ))(e:lg φ m (mx.map ρ))
 {n:Nat} (o:∃s,a=.str s) (d:Af n a l h m=some G):fV P φ ρ ⟨dst,.slice g k lo hi mx,ty,pos,after,guard⟩ G:=by
 intro w;obtain⟨s,rfl⟩:=o;generalize p:ρ k=t at b
 cases b;cases m with
 |some m=>cases d
 |none=>
  cases c:mx.map ρ with
  |some m=>rw[c]at e;exact e.elim
  |none=>
   obtain⟨v,r,rfl,f,i⟩:=aqi (P:=P) j rl q d w;exact⟨r,by simp only[execOp,p,c];simp[f],i⟩
variable{u:Nat}{L:Nat}
theorem apq{a:Option Addr}(n:aJ φ (.row u b) (.slice a u L)){l c:Option V}(k:ye h u b l c none=some G):
 ∃v i hh,G=.val v∧jI l c u u=some (i,hh)∧u≤L∧aJ φ v (.slice (if L=i then a else a.map (·.add (i*h))) (hh-i) (L-i)):=by
 obtain⟨⟨i,hh⟩,o,k⟩:=av.1 (show ao (jI l c u u) _=some G from k);obtain⟨_,_,x,y⟩:=sB o;have p:u≤L:=by
  cases n with
  |eW=>omega
  |row _ _ _ c=>exact c
 have s:a=none→L=0:=by
  intro e;subst e;cases n with
  |eW _ _ c=>exact c rfl
 cases f:bn i hh with
 |true=>
  have d:Bool.casesOn (motive:=fun _=>Option aY) (bn i hh) (ao (cq (eC b (dQ i h)) (dQ (ja hh i) h)) fun t=>some (.val (.row (ja hh i) t))) (some (aY.val (.row 0 [])))=some G:=k;rw[f]at d;cases d;rw[beq_eq]at f;subst f;refine⟨_,i,i,rfl,o,p,?_⟩;rw[m6];refine .eW _ _ ?_;intro e;cases a with
  |none=>rw[s rfl];exact Nat.zero_sub i
  |some a=>
   split at e
   ·cases e
   ·cases e
 |false=>
  have d:Bool.casesOn (motive:=fun _=>Option aY) (bn i hh) (ao (cq (eC b (dQ i h)) (dQ (ja hh i) h)) fun t=>some (.val (.row (ja hh i) t))) (some (aY.val (.row 0 [])))=some G:=k;rw[f]at d;obtain⟨t,m,d⟩:=av.1 (show ao (cq (eC b (dQ i h)) (dQ (ja hh i) h)) (fun t=>some (aY.val (.row (ja hh i) t)))=some G from d);cases d;have z:i≠hh:=fun e=>by rw[(beq_eq _ _).2 e]at f;cases f
  refine⟨_,i,hh,rfl,o,p,?_⟩;rw[aj aa];cases n with
  |eW=>omega
  |row hi q w _=>
   rw[e4,kG]at m;split at m
   ·cases m;show aJ φ (.row (hh-i) _) (.slice (some (Addr.add ⟨_,_,none⟩ (i*h))) (hh-i) (L-i));rw[mu];refine .row hi ((q.drop _).take _) ?_ aa;intro j v r;have g:=r;rw[List.getElem?_take]at g;split at g
    ·rw[q5]at g;have c:=w _ _ g;rw[jl];exact c
    ·cases g
   ·cases m
theorem aqg{t e:TypeId}{x:Operand}{lo hi mx:Option Operand}{n:Nat}(hT:cR P T)(y:T.bq t=some (.slice e))(A:iQ T e=some n){a:V}{l h m:Option V}(Q:aJ φ a (ρ x))(rl:lg φ l (lo.map ρ))(B:lg φ h (hi.map ρ))(u:lg φ m (mx.map ρ))
 (S:m.isSome=true→h.isSome=true) {r:aY} (hs:∀s,a≠ .str s) (d:Af n a l h m=some r):fV P φ ρ ⟨dst,.slice t x lo hi mx,ty,pos,after,guard⟩ r:=by
 intro w;generalize g:ρ x=x' at Q
 generalize z:mx.map ρ=F at u
 cases Q<;>first|exact absurd rfl (hs _)|(cases d;done)|skip
 ·rename_i b o U ab j C M E L;cases m with
  |none=>
   cases F with
   |some q=>exact u.elim
   |none=>
    cases ab with
    |known k=>
     have X:j=k:=L;subst X;obtain⟨v,i,hh,rfl,f,p⟩:=CP M (show qO b o U j n l h=some r from d);have:=qP (P:=P) hT y A (a:=some ⟨C.c,C.base+o,none⟩) (s7 (nq:=true) rl B f (aE _) w);exact⟨_,by simp only[execOp,g,z];rw[cU,this];rfl,p⟩
    |grown Z=>
     obtain⟨he,d⟩:=cH.1 (show aQ (bn Z n) (v_ b o U (.grown Z) n l h)=some r from d);rw[beq_eq]at he;subst he;obtain⟨v,i,hh,rfl,f,p⟩:=RO (.inr rfl) M E L d;have:=qP (P:=P) hT y A (a:=some ⟨C.c,C.base+o,none⟩) (s7 (nq:=true) rl B f E w);exact⟨_,by simp only[execOp,g,z];rw[cU,this];rfl,p⟩
    |nw=>
     obtain⟨v,i,hh,rfl,f,p⟩:=RO (.inl rfl) M E L (show v_ b o U .nw n l h=some r from d);have:=qP (P:=P) hT y A (a:=some ⟨C.c,C.base+o,none⟩) (s7 (nq:=true) rl B f E w);exact⟨_,by simp only[execOp,g,z];rw[cU,this];rfl,p⟩
    |least k=>
     have R:k≤j:=L;obtain⟨v,i,hh,rfl,f,p⟩:=aqe M E R (show Ag b o U k l h=some r from d);have:=qP (P:=P) hT y A (a:=some ⟨C.c,C.base+o,none⟩) (s7 (nq:=true) rl B f R w);exact⟨_,by simp only[execOp,g,z];rw[cU,this];rfl,p⟩
  |some m=>
   cases F with
   |none=>exact u.elim
   |some Y=>
    obtain⟨I,H,d⟩:=av.1 (show ao (gm m) _=some r from d);obtain⟨G,d⟩:=cH.1 d;rw[eZ]at G;have ar:I≤j:=by
     cases ab with
     |known k=>have X:j=k:=L;subst X;exact G
     |grown Z=>exact cy G E
     |nw=>exact cy G E
     |least k=>exact cy G E
    obtain⟨v,i,hh,rfl,f,p⟩:=CP M d;have:=qP (P:=P) hT y A (a:=some ⟨C.c,C.base+o,none⟩) (Aa (nq:=true) rl B (S rfl) u H f ar w);exact⟨_,by simp only[execOp,g,z];rw[cU,this];rfl,p⟩
 ·obtain⟨⟨i,hh⟩,f,d⟩:=av.1 (show ao (jI l h 0 0) _=some r from d);obtain⟨_,_,h3,h4⟩:=sB f;have J:hh=0:=aa;have K:i=0:=aa;subst J;subst K;cases m with
  |none=>
   cases F with
   |some q=>exact u.elim
   |none=>
    cases d;have:=qP (P:=P) hT y A (a:=none) (s7 (nq:=true) rl B f (aE _) w);exact⟨_,by simp only[execOp,g,z];rw[cU,this];rfl,by simpa using aJ.an⟩
  |some m=>
   cases F with
   |none=>exact u.elim
   |some Y=>
    obtain⟨I,H,d⟩:=av.1 d;obtain⟨N,d⟩:=cH.1 d;cases d;have O:I=0:=(beq_eq _ _).1 N;subst O;have:=qP (P:=P) hT y A (a:=none) (Aa (nq:=true) rl B (S rfl) u H f (aE _) w);exact⟨_,by simp only[execOp,g,z];rw[cU,this];rfl,by simpa using aJ.an⟩
 ·rename_i D j;obtain⟨⟨i,hh⟩,f,d⟩:=av.1 (show ao (jI l h 0 0) _=some r from d);obtain⟨_,_,h3,h4⟩:=sB f;have J:hh=0:=aa;have K:i=0:=aa;subst J;subst K;cases m with
  |none=>
   cases F with
   |some q=>exact u.elim
   |none=>
    cases d;have:=qP (P:=P) hT y A (a:=some D) (s7 (nq:=true) rl B f (bQ j) w);refine⟨_,by simp only[execOp,g,z];rw[cU,this];rfl,?_⟩;split
    ·exact .emp _ _
    ·exact .emp _ _
  |some m=>
   cases F with
   |none=>exact u.elim
   |some Y=>
    obtain⟨I,H,d⟩:=av.1 d;obtain⟨N,d⟩:=cH.1 d;cases d;have O:I=0:=(beq_eq _ _).1 N;subst O;have:=qP (P:=P) hT y A (a:=some D) (Aa (nq:=true) rl B (S rfl) u H f (bQ j) w);refine⟨_,by simp only[execOp,g,z];rw[cU,this];rfl,?_⟩;split
    ·exact .emp _ _
    ·exact .emp _ _
 all_goals
  have al:∀ {k:Nat}{W:List V}{D:Option Addr}{j:Nat},aJ φ (.row k W) (.slice D k j)→ye n k W l h m=some r→ρ x=.slice D k j→(∃v,r=.val v∧∃v',(execOp ρ ⟨dst,.slice t x lo hi mx,ty,pos,after,guard⟩).run P w=.ok (.value v') w∧aJ φ v v'):=by
   intro k W D j Q d g;cases m with
   |none=>
    cases F with
    |some q=>exact u.elim
    |none=>
     obtain⟨v,i,hh,rfl,f,R,p⟩:=apq Q d;have:=qP (P:=P) hT y A (a:=D) (s7 (nq:=true) rl B f R w);exact⟨v,rfl,_,by simp only[execOp,g,z];rw[cU,this];rfl,p⟩
   |some m=>
    cases F with
    |none=>exact u.elim
    |some Y=>
     obtain⟨I,H,d⟩:=av.1 (show ao (gm m) _=some r from d);obtain⟨N,d⟩:=cH.1 d;obtain⟨⟨i,hh⟩,f,d⟩:=av.1 d;cases d;have O:I=0:=(beq_eq _ _).1 N;subst O;obtain⟨_,_,h3,h4⟩:=sB f;have J:hh=0:=aa;have K:i=0:=aa;subst J;subst K;have:=qP (P:=P) hT y A (a:=D) (Aa (nq:=true) rl B (S rfl) u H f (bQ j) w);exact⟨_,rfl,_,by simp only[execOp,g,z];rw[cU,this];rfl,.gM _⟩
 ·obtain⟨v,rfl,h⟩:=al (.eW _ _ (by assumption)) d g;exact h
 ·rename_i hi hc p G;obtain⟨v,rfl,h⟩:=al (.row hi hc p G) d g;exact h
theorem aqd{e:TypeId}{lo hi mx:Option Operand}(hT:cR P T)(B:T.bq g=some (.array u e))(F:iQ T e=some h){a:V}{l j m:Option V}(y:aJ φ a (ρ k))(rl:lg φ l (lo.map ρ))(A:lg φ j (hi.map ρ))(r:lg φ m (mx.map ρ))
 (D:m.isSome=true→j.isSome=true) (d:nB u h a l j m=some G):fV P φ ρ ⟨dst,.slice g k lo hi mx,ty,pos,after,guard⟩ G:=by
 intro w;generalize H:ρ k=J at y
 generalize E:mx.map ρ=x at r
 cases y<;>first|(cases d;done)|skip
 rename_i b o p n
 have key:∀ {i hh f:Nat},(r7 false u u (lo.map ρ) (hi.map ρ) x).run P w=.ok (i,hh,f) w→
  (execOp ρ ⟨dst,.slice g k lo hi mx,ty,pos,after,guard⟩).run P w=.ok (.value (.slice (if f=i then some ⟨p.c,p.base+o,none⟩else(some (⟨p.c,p.base+o,none⟩:Addr)).map (·.add (i*h))) (hh-i) (f-i))) w:=by
  intro i hh f n;simp only[execOp,H,E,Instr.sliceAt,wE];simp only[cU,run_underlying (hT.bq B),dV,fO,n,l6 hT F];by_cases e:f=i<;>simp[e]
 cases m with
 |none=>
  cases x with
  |some q=>exact r.elim
  |none=>
   obtain⟨v,i,hh,rfl,s,t⟩:=CP n (show qO b o u u h l j=some G from d);exact⟨_,key (s7 rl A s (aE _) w),t⟩
 |some m=>
  cases x with
  |none=>exact r.elim
  |some I=>
   obtain⟨f,C,d⟩:=av.1 (show ao (gm m) _=some G from d);obtain⟨z,d⟩:=cH.1 d;rw[eZ]at z;obtain⟨v,i,hh,rfl,s,t⟩:=CP n d;exact⟨_,key (Aa rl A (D rfl) r C s z w),t⟩
end
section
variable {P:Program}{φ:aG}{ρ:Operand→Value}{dst:Option Tmp}{ty:TypeId}{pos:String}{after:Array Edge}{guard:Option (Nat×Bool)}{T:cg}
variable{w:Array TypeId}{G:aY}
theorem al'(c:w[0]? =some g)(d:P.underlying g=some .string){v:V}(b:aJ φ v (ρ k))(a:zA v=some G):
 fV P φ ρ ⟨dst,.call ⟨.builtin .len,#[k],w⟩,ty,pos,after,guard⟩ G:=by
 intro f;generalize e:ρ k=h at b
 cases b<;>first|(cases a;done)|skip
 cases a;refine⟨_,?_,.int _ _⟩;simp only[execOp,resolve,invoke,builtin,Builtin.len_];simp[e,c,run_underlying d,goInt,gO];rfl
theorem al9{e:TypeId}(c:w[0]? =some g)(d:P.underlying g=some (.slice e)){v:V}(b:aJ φ v (ρ k))(a:cT v=some G):
 fV P φ ρ ⟨dst,.call ⟨.builtin .len,#[k],w⟩,ty,pos,after,guard⟩ G:=by
 intro h;generalize f:ρ k=i at b
 cases b<;>first|(cases a;done)|skip
 all_goals
  cases a;refine⟨_,?_,.int _ _⟩;simp only[execOp,resolve,invoke,builtin,Builtin.len_];simp[f,c,run_underlying d,goInt]
theorem al8{e:TypeId}(b:w[0]? =some g)(c:P.underlying g=some (.array a e)):
 fV P φ ρ ⟨dst,.call ⟨.builtin .len,#[k],w⟩,ty,pos,after,guard⟩ (.val (.int .i64 (.ofNat a))):=by
 intro d;refine⟨.int .i64 a,?_,.int _ _⟩;simp only[execOp,resolve,invoke,builtin,Builtin.len_];simp[b,run_underlying c,goInt]
theorem Ua{e:TypeId}(d:w[0]? =some g)(f:P.underlying g=some (.slice e)){v:V}(h:aJ φ v (ρ k))(a:y8 v=some G):
 fV P φ ρ ⟨dst,.call ⟨.builtin .cap,#[k],w⟩,ty,pos,after,guard⟩ G:=by
 intro s;generalize i:ρ k=t at h
 cases h<;>first|(cases a;done)|skip
 ·rename_i b o r j c l q p m;cases j<;>first|(cases a;done)|skip
  cases a;have n:c=_:=m;subst n;refine⟨.int .i64 c,?_,.int _ _⟩;simp only[execOp,resolve,invoke,builtin,Builtin.cap_];simp[i,d,run_underlying f,goInt]
 all_goals
  cases a;refine⟨.int .i64 0,?_,.int _ _⟩;simp only[execOp,resolve,invoke,builtin,Builtin.cap_];simp[i,d,run_underlying f,goInt]
theorem Og{f:V→V→Option V}{o:Value→Value→Sem Value}(u:∀ {a b c:V}{d n:Value},aJ φ a d→aJ φ b n→f a b=some c→∀w,∃j,(o d n).run P w=.ok j w∧aJ φ c j)(w:World):
 ∀ {l:List V}{g:List Value},bm φ l g→∀ {a v:V}{d:Value},aJ φ a d→List.rec (motive:=fun _=>V→Option V) (fun a=>some a) (fun y _ m a=>ao (f a y) m) l a=some v→
  ∃i,(g.foldlM o d).run P w=.ok i w∧aJ φ v i:=by
 intro l;induction l with
 |nil=>intro g h a v d k e;cases h;cases e;exact⟨d,rfl,k⟩
 |cons y l m=>
  intro g h a v d k e;cases h with
  |cons p q=>
   obtain⟨c,r,e⟩:=av.1 e;obtain⟨j,s,t⟩:=u k p r w;obtain⟨i,x,z⟩:=m q t e;refine⟨i,?_,z⟩;rw[List.foldlM_cons,cU,s];exact x
variable{s:V}
theorem amR{a c:V}{d:Value}(g:aJ φ a x)(i:aJ φ s d)(h:max2 a s=some c)(w:World):∃f,(Builtin.max2 x d).run P w=.ok f w∧aJ φ c f:=by
 cases g<;>cases i<;>first|(cases h;done)|skip
 rename_i k b j y;cases h;refine⟨.int k (if y>b then y else b),by simp[Builtin.max2],?_⟩;by_cases hh:b<y
 ·have e:lA b y=true:=by rw[qz];simpa using hh
  rw[e,ak hh];exact .int _ _
 ·have e:lA b y=false:=by rw[qz];simpa using hh
  rw[e,aj hh];exact .int _ _
theorem amV{a c:V}{d:Value}(g:aJ φ a x)(i:aJ φ s d)(h:min2 a s=some c)(w:World):∃f,(Builtin.min2 x d).run P w=.ok f w∧aJ φ c f:=by
 cases g<;>cases i<;>first|(cases h;done)|skip
 rename_i k b j y;cases h;refine⟨.int k (if y<b then y else b),by simp[Builtin.min2],?_⟩;by_cases hh:y<b
 ·have e:lA y b=true:=by rw[qz];simpa using hh
  rw[e,ak hh];exact .int _ _
 ·have e:lA y b=false:=by rw[qz];simpa using hh
  rw[e,aj hh];exact .int _ _
theorem amS{d:Array Operand}(hl:bm φ b (d.toList.map ρ))(c:rz max2 b=some G):fV P φ ρ ⟨dst,.call ⟨.builtin .max,d,w⟩,ty,pos,after,guard⟩ G:=by
 intro e;cases b with
 |nil=>cases c
 |cons a b=>
  generalize k:d.toList.map ρ=m at hl
  cases hl with
  |cons f g=>
   obtain⟨v,l,c⟩:=av.1 (show ao _ (fun v=>some (aY.val v))=some G from c);cases c;obtain⟨p,n,o⟩:=Og (fun h i j e=>amR (P:=P) h i j e) e g f l;refine⟨p,?_,o⟩;simp only[execOp,resolve,invoke,builtin,Builtin.max_];simp[k,n]
theorem amW{d:Array Operand}(hl:bm φ b (d.toList.map ρ))(c:rz min2 b=some G):fV P φ ρ ⟨dst,.call ⟨.builtin .min,d,w⟩,ty,pos,after,guard⟩ G:=by
 intro e;cases b with
 |nil=>cases c
 |cons a b=>
  generalize k:d.toList.map ρ=m at hl
  cases hl with
  |cons f g=>
   obtain⟨v,l,c⟩:=av.1 (show ao _ (fun v=>some (aY.val v))=some G from c);cases c;obtain⟨p,n,o⟩:=Og (fun h i j e=>amV (P:=P) h i j e) e g f l;refine⟨p,?_,o⟩;simp only[execOp,resolve,invoke,builtin,Builtin.min_];simp[k,n]
theorem J9(s:List UInt8):bm φ (lmap (fun b=>V.int .u8 (.ofNat b.toNat)) s) (s.map fun b=>Value.int .u8 b.toNat):=by
 induction s with
 |nil=>exact .nil
 |cons b s a=>exact .cons (.int _ _) a
theorem aq2{d e:TypeId}(F:P.underlying g=some .string)(D:P.underlying d=some (.slice e))(E:P.underlying e=some (.int .u8)){v:V}(a:aJ φ v (ρ k))(n:Aq [v]=some G):
 fV P φ ρ ⟨dst,.convert g d k,ty,pos,after,guard⟩ G:=by
 intro w;generalize H:ρ k=K at a
 cases a<;>first|(cases n;done)|skip
 rename_i u;cases n;have l:u.length≤grownCap w u.length 0 e:=grownCap_ge w _ 0 e;have p:=run_bytes_of_string (P:=P) w g d e ⟨⟨u⟩⟩ F D E;have q:(⟨⟨u⟩⟩:ByteArray).size=u.length:=rfl;rw[q]at p;have m:(bytesRow ⟨⟨u⟩⟩ (grownCap w u.length 0 e)).size=grownCap w u.length 0 e:=by
  simp[bytesRow,q];omega
 have o:=J9 (φ:=φ) u;have z:∀i,i<u.length→(bytesRow ⟨⟨u⟩⟩ (grownCap w u.length 0 e))[i]? =(u.map fun b=>Value.int .u8 b.toNat)[i]? :=by
  intro i hi;rw[bytesRow_at _ _ _ (by simpa using hi)];simp[hi]
 generalize bytesRow ⟨⟨u⟩⟩ (grownCap w u.length 0 e)=B at*
 refine⟨.slice (some ⟨w.heap.size,0,none⟩) u.length (grownCap w u.length 0 e),w.drew.alloc (.cells B e (B.size,B.size+1)),grownCap w u.length 0 e,by simp only[execOp,H];rw[cU,p];rfl,⟨aB,fun c C=>?_,⟨rfl,rfl,rfl,fun h=>(hN.alloc w.drew _).free h,fun c r t x h=>(hN.alloc w.drew _).shape c r t x h⟩,_,rfl,?_,fun i v a=>?_,fun i hi=>⟨?_,?_⟩⟩,fun J b A=>?_⟩
 ·show(w.heap.push _)[c]? =_;simp[wA,Nat.ne_of_lt C]
 ·have f:=o.length;rw[g5]at f;exact cy (Nat.le_of_eq f) l
 ·obtain⟨I,j,y⟩:=o.get i v a;refine⟨I,?_,y⟩;have hi:i<u.length:=by
   have:=(fN.1 j).1;simpa using this
  exact(World.cell?_alloc_mark w.drew B e (B.size,B.size+1) i).trans ((z i hi).trans j)
 ·exact⟨B[i]'aa,(World.cell?_alloc_mark w.drew B e (B.size,B.size+1) i).trans (by simp[m,hi])⟩
 ·refine(World.frozen?_alloc_mark w.drew B e B.size (B.size+1) i).trans ?_;rw[m];simp;omega
 ·have s:cr u=u.length:=gO u;show aJ J (.slice b 0 (cr u) .nw) _;rw[s];exact .slice A l trivial
end
section
variable {P:Program}{φ:aG}{ρ:Operand→Value}{dst:Option Tmp}{ty:TypeId}{pos:String}{after:Array Edge}{guard:Option (Nat×Bool)}{T:cg}
theorem anp:Extern.allNextRows.lookup "math/bits.Add64"=none:=by kernel_rfl
theorem anr:Extern.allNextRows.lookup "math/bits.Sub64"=none:=by kernel_rfl
theorem PZ:Extern.allNextRows.lookup ""=none:=by kernel_rfl
theorem ahH:Extern.allGenericRows.lookup "math/bits.Add64"=none:=by kernel_rfl
theorem ahI:Extern.allGenericRows.lookup "math/bits.Sub64"=none:=by kernel_rfl
theorem arn:Extern.allTypedRows.lookup "math/bits.Add64"=none:=by kernel_rfl
theorem aro:Extern.allTypedRows.lookup "math/bits.Sub64"=none:=by kernel_rfl
theorem apr:Extern.allRows.lookup "math/bits.Add64"=Extern.MathBitsCarry.rows.lookup "math/bits.Add64":=by kernel_rfl
theorem apw:Extern.allRows.lookup "math/bits.Sub64"=Extern.MathBitsCarry.rows.lookup "math/bits.Sub64":=by kernel_rfl
variable{A:FuncId}{w:Array TypeId}
theorem Kt{a:Func}(k:ρ (.func A)=.func (.func A) #[] #[]) (h:P.funcs[A]? =some a) (f:a.body=none) (i:(a.name== "runtime.NumGoroutine")=false) (c:Extern.findNext a=none) {e:Array Value→Sem Value} (d:Extern.find a=some e) {b:Array Operand}{v:Value}
 (g:(e (b.map ρ)).run P r=.ok v r):(execOp ρ ⟨dst,.call ⟨.value (.func A),b,w⟩,ty,pos,after,guard⟩).run P r=.ok (.value v) r:=by
 simp only[execOp,resolve,k,Deferred.ofValue,invoke,callFunc];have j:¬a.name= "runtime.NumGoroutine":=by simpa using i
 simp[h,j,f,c,d,g]
def DM(a:Array Value):Sem Value:=do
 let(x,y,c)←Extern.MathBitsCarry.three "Add64" a
 pure (Extern.MathBitsCarry.pair ((x+y+c)%Extern.MathBitsCarry.m64) ((x+y+c)/Extern.MathBitsCarry.m64))
def H7(a:Array Value):Sem Value:=do
 let(x,y,b)←Extern.MathBitsCarry.three "Sub64" a
 pure (Extern.MathBitsCarry.pair ((x+Extern.MathBitsCarry.m64-y-b)%Extern.MathBitsCarry.m64) (if x<y+b then 1 else 0))
theorem amy:Extern.MathBitsCarry.rows.lookup "math/bits.Add64"=some DM:=rfl
theorem amz:Extern.MathBitsCarry.rows.lookup "math/bits.Sub64"=some H7:=rfl
theorem R8(d:String)(a b c:Nat)(f:c≤1)(w:World):(Extern.MathBitsCarry.three d ⟨[.int .u64 (a:Int),.int .u64 (b:Int),.int .u64 (c:Int)]⟩).run P w=.ok (a,b,c) w:=by
 have e:Extern.MathBitsCarry.three d ⟨[.int .u64 (a:Int),.int .u64 (b:Int),.int .u64 (c:Int)]⟩=(do
  let c:=(←asInt (.int .u64 (c:Int))).toNat
  if c>1 then unsupported (.noEntry ("extern/math/bits."++d++ ": a carry that is neither 0 nor 1"))
  pure ((←asInt (.int .u64 (a:Int))).toNat,(←asInt (.int .u64 (b:Int))).toNat,c):Sem (Nat×Nat×Nat)):=rfl
 rw[e];simp[asInt,asIntOf];omega
theorem PT{t:Nat×Nat×Nat}(h:zK b=some t):b=[.int .u64 (t.1:Int),.int .u64 (t.2.1:Int),.int .u64 (t.2.2:Int)]:=by
 have d:∀ {v:V}{n:Nat},Ay v=some n→v=.int .u64 (n:Int):=by
  intro v n h;cases v with
  |int k m=>cases k<;>cases m<;>first|(cases h;done)|(cases h;rfl)
  |_=>cases h
 match b,h with
 |[a,i,c],h=>
  obtain⟨x,e,h⟩:=av.1 (show ao (Ay a) _=some t from h);obtain⟨y,f,h⟩:=av.1 h;obtain⟨z,g,h⟩:=av.1 h;cases h;rw[d e,d f,d g]
 |[],h=>cases h
 |[_],h=>cases h
 |[_,_],h=>cases h
 |_::_::_::_::_,h=>cases h
variable{C:List V→Option aY}{G:aY}
theorem agP{f:Func}(z:ρ (.func A)=.func (.func A) #[] #[]) (x:P.funcs[A]? =some f) (v:f.body=none) (y:f.origin= "") (g:FK f.name=some C) {c:Array Operand}
 (hl:bm φ b (c.toList.map ρ)) (a:C b=some G):fV P φ ρ ⟨dst,.call ⟨.value (.func A),c,w⟩,ty,pos,after,guard⟩ G:=by
 intro B;have j:c.map ρ=⟨c.toList.map ρ⟩:=by apply tw;simp
 unfold FK at g;split at g
 ·rename_i d;cases g;obtain⟨t,u,a⟩:=av.1 (show ao (zK b) _=some G from a);obtain⟨i,a⟩:=cH.1 a;cases a;rw[eZ]at i;have:=PT u;subst this;have r:c.toList.map ρ=[.int .u64 (t.1:Int),.int .u64 (t.2.1:Int),.int .u64 (t.2.2:Int)]:=by
   generalize c.toList.map ρ=m at hl
   cases hl with|cons k l=>cases l with|cons n o=>cases o with|cons p q=>cases q;cases k;cases n;cases p;rfl
  rw[r]at j;refine⟨.tuple ⟨[.int .u64 (((t.1+t.2.1+t.2.2)%18446744073709551616:Nat):Int),.int .u64 (((t.1+t.2.1+t.2.2)/18446744073709551616:Nat):Int)]⟩,?_,.az (.cons (.int _ _) (.cons (.int _ _) .nil))⟩;have s:Extern.find f=some DM:=by
   simp[Extern.find,d,ahH,arn,apr,amy]
  refine Kt z x v (by rw[d];decide) (by simp[Extern.findNext,d,y,anp,PZ]) s ?_;rw[j];simp only[DM,cU,R8 _ _ _ _ i,dV,fO];rfl
 ·split at g
  ·rename_i d;cases g;obtain⟨t,u,a⟩:=av.1 (show ao (zK b) _=some G from a);obtain⟨i,a⟩:=cH.1 a;cases a;rw[eZ]at i;have:=PT u;subst this;have r:c.toList.map ρ=[.int .u64 (t.1:Int),.int .u64 (t.2.1:Int),.int .u64 (t.2.2:Int)]:=by
    generalize c.toList.map ρ=m at hl
    cases hl with|cons k l=>cases l with|cons n o=>cases o with|cons p q=>cases q;cases k;cases n;cases p;rfl
   rw[r]at j;have s:Extern.find f=some H7:=by
    simp[Extern.find,d,ahI,aro,apw,amz]
   refine⟨.tuple ⟨[.int .u64 (((t.1+18446744073709551616-t.2.1-t.2.2)%18446744073709551616:Nat):Int),.int .u64 ((if t.1<t.2.1+t.2.2 then 1 else 0:Nat):Int)]⟩,?_,?_⟩
   ·refine Kt z x v (by rw[d];decide) (by simp[Extern.findNext,d,y,anr,PZ]) s ?_;rw[j];simp only[H7,cU,R8 _ _ _ _ i,dV,fO];rfl
   ·refine .az (.cons (.int _ _) (.cons ?_ .nil));by_cases h:t.2.1+t.2.2≤t.1
    ·have e:bM (gv t.2.1 t.2.2) t.1=true:=(eZ _ _).2 h;rw[e,aj aa];exact .int _ _
    ·have e:bM (gv t.2.1 t.2.2) t.1=false:=mY.2 (fun hh=>h ((eZ _ _).1 hh));rw[e,ak aa];exact .int _ _
  ·cases g
end
section
variable {P:Program}{φ:aG}{ρ:Operand→Value}{dst:Option Tmp}{ty:TypeId}{pos:String}{after:Array Edge}{guard:Option (Nat×Bool)}{T:cg}
theorem aiZ(hT:cR P T)(a:T.bq g=some E)(b:vA E=true)(w:World):(isAgg g).run P w=.ok false w:=by
 have c:=run_underlying (hT.bq a) w;cases E<;>first|(cases b;done)|simp[isAgg,c]
theorem G7(hT:cR P T)(a:T.bq g=some E)(b:vA E=true){cs:Array Value}{i:Nat}{v:Value}(h:cs[i]? =some v)(w:World):(part g cs i).run P w=.ok v w:=by
 simp[part,aiZ hT a b,h]
variable{s:V}
theorem Ul(hT:cR P T)(i:T.bq g=some E){y:V}{e:Value}(l:aJ φ s x)(m:aJ φ y e)(h:w8 E s y=some p)(n:Nat)(w:World):(Op.equalIn (n+1) g x e).run P w=.ok p w:=by
 have j:=run_underlying (hT.bq i) w;cases E<;>first|(cases h;done)|skip
 case int=>
  cases l<;>first|(cases h;done)|skip
  cases m<;>first|(cases h;done)|skip
  rename_i k a d b;obtain⟨c,h⟩:=cH.1 (show aQ (g_ k d) (some (mH a b))=some p from h);cases h;rw[xI]at c;have f:k=d:=by simpa using c
  simp only[Op.equalIn,cU,j,dV,f,if_true,fO,rG];rfl
theorem Eh{ds:List TypeDesc}{c:List V}(h:m9 (E::ds) b c=some p):
 ∃x e y f a d,b=x::e∧c=y::f∧w8 E x y=some a∧m9 ds e f=some d∧p=and a d:=by
 cases b with
 |nil=>cases h
 |cons x b=>cases c with
  |nil=>cases h
  |cons y c=>
   obtain⟨a,g,h⟩:=av.1 (show ao (w8 E x y) (fun p=>ao (m9 ds b c) fun s=>some (and p s))=some p from h);obtain⟨d,i,h⟩:=av.1 h;cases h;exact⟨x,b,y,c,a,d,rfl,rfl,g,i,rfl⟩
theorem FA{l:List f}{a:f}{r:List f}(b:l.drop h=a::r):l[h]? =some a∧l.drop (h+1)=r:=by
 have c:(l.drop h)[0]? =some a:=by rw[b];rfl
 rw[q5]at c;refine⟨c,?_⟩;have:=congrArg (List.drop 1) b;rw[List.drop_drop]at this;simpa using this
theorem bm.cons_inv(h:bm φ (s::b) D):∃c d,D=c::d∧aJ φ s c∧bm φ b d:=by
 cases h with
 |cons a e=>exact⟨_,_,rfl,a,e⟩
theorem ai1(hT:cR P T)(f:T.bq g=some E)(m:vA E=true)(n:Nat)(k l:List Value)(w:World):∀(e i:Nat) (c d:List V) (r:Bool),bm φ c (k.drop i)→bm φ d (l.drop i)→m9 (z6 E e) c d=some r→
 (do let q←forIn (tE i e) ((none:Option Bool),()) (fun j _=>do
      let b←Op.equalIn (n+1) g (←part g ⟨k⟩ (j*1)) (←part g ⟨l⟩ (j*1))
      if(!b)=true then pure (ForInStep.done (some false,()))else pure (ForInStep.yield (none,())))
     match q.1 with
     |some a=>pure a
     |none=>pure true:Sem Bool).run P w=.ok r w:=by
 intro e;induction e with
 |zero=>
  intro i c d r _ _ h;have A:m9 [] c d=some r:=h;cases c<;>cases d<;>cases A;simp
 |succ e K=>
  intro i c d r B G h;obtain⟨x,c,y,d,a,b,rfl,rfl,t,u,rfl⟩:=Eh (show m9 (E::z6 E e) c d=some r from h);obtain⟨O,R,F,C,D⟩:=B.cons_inv;obtain⟨Q,S,J,H,I⟩:=G.cons_inv;obtain⟨v,p⟩:=FA F;obtain⟨z,s⟩:=FA J;have o:=K (i+1) c d b (by rw[p];exact D) (by rw[s];exact I) u;have L:=G7 hT f m (cs:=⟨k⟩) (i:=i*1) (v:=O) (by simpa using v) w;have M:=G7 hT f m (cs:=⟨l⟩) (i:=i*1) (v:=Q) (by simpa using z) w;have N:=Ul hT f C H t n w;rw[List.range'_succ,List.forIn_cons];simp only[cU,L,M,N,dV]at o⊢;cases a
  ·simp
  ·simpa using o
theorem Td(hT:cR P T){ds:List TypeDesc}(c:wU T g=some ds){f:List V}{j:List Value}(u:bm φ b D)(v:bm φ f j)(h:m9 ds b f=some p)(w:World):
 (Op.equal g (.agg ⟨D⟩) (.agg ⟨j⟩)).run P w=.ok p w:=by
 obtain⟨d,q,c⟩:=av.1 (show ao (T.bq g) _=some ds from c);have t:=hT.bq q;unfold Op.equal;cases d<;>first|(cases c;done)|skip
 case array n e=>
  obtain⟨y,r,c⟩:=av.1 (show ao (T.bq e) _=some ds from c);obtain⟨m,c⟩:=cH.1 c;obtain⟨i,o,c⟩:=av.1 c;obtain⟨k,c⟩:=cH.1 c;cases c;rw[beq_eq]at k;have s:(sizeOf e).run P w=.ok 1 w:=by
   have:=qM (hT.info e i o) w;simp[sizeOf,this,k]
  rw[show Op.maxDepth=9998+1+1 from rfl];have:=ai1 hT r m 9998 D j w n 0 b f p u v h;unfold Op.equalIn;simp only[cU,run_underlying t,dV,s];simp at this⊢;refine Eq.trans ?_ this;congr 1;funext a z;obtain⟨l,x⟩:=a;cases l<;>rfl
theorem auW(hT:cR P T)(a:T.bq g=some E)(b:vA E=true)(n:Nat)(x y:Value)(w:World):(Op.eqGuardIn (n+1) g x y).run P w=.ok false w:=by
 have c:=run_underlying (hT.bq a) w;cases E<;>first|(cases b;done)|simp[Op.eqGuardIn,c]
end
section
variable {P:Program}{φ:aG}{H:af}{w:World}{T:cg}{ρ:Operand→Value}{dst:Option Tmp}{ty:TypeId}{pos:String}{after:Array Edge}{guard:Option (Nat×Bool)}
theorem ahN(a:Nat):∀r c,c≤a→Builtin.growBy a r c≤2*a+200:=by
 intro r;induction r with
 |zero=>intro c b;simp[Builtin.growBy];omega
 |succ r d=>
  intro c b;unfold Builtin.growBy;split
  ·omega
  ·by_cases h:c+(c+768)/4≤a
   ·exact d _ h
   ·have:∀r c,a≤c→Builtin.growBy a r c=c:=by
     intro r c b;cases r with
     |zero=>rfl
     |succ r=>unfold Builtin.growBy;rw[ak b]
    rw[this _ _ aa];omega
theorem nextslicecap_le{need old:Nat}(h:old<need):Builtin.nextslicecap need old≤2*need+200:=by
 unfold Builtin.nextslicecap;split
 ·omega
 ·split
  ·omega
  ·exact ahN need 4 old aa
variable{n:IntKind}
theorem Tr{st:TypeId}(z:P.underlying st=some (.slice g)){i:TypeInfo}(hi:P.info? g=some i)(e:i.zero=some x)(C:x.cells.size=i.size){f ty:TypeId}(B:P.underlying f=some (.int n))
 {d:Array TypeId} (l:d[0]? =some st) (b:d[1]? =some f) {kx:IntKind} (J:0<a) (G:a≤1099511627776) (H:a*i.bytes≤1099511627776):
 ∃c,a≤c∧(Builtin.append_ d ty #[.slice none 0 0,.int kx (a:Int)]).run P w=.ok (.slice (some ⟨w.heap.size,0,none⟩) a c) (w.drew.alloc (.cells (Builtin.zeroCells x.cells a++Builtin.zeroCells x.cells (c-a)) g)):=by
 have y:∀w,(sizeOf g).run P w=.ok i.size w:=by intro w;simp[sizeOf,qM hi]
 have j:(#[Value.slice none 0 0,.int kx (a:Int)]:Array Value)[0]? =some (.slice none 0 0):=rfl;have k:(#[Value.slice none 0 0,.int kx (a:Int)]:Array Value)[1]? =some (.int kx (a:Int)):=rfl;have u:¬(0+a≤0):=aa;have r:¬(((0+a:Nat):Int)>IntKind.i64.max):=by
  have:IntKind.i64.max=9223372036854775807:=ag;rw[this];omega
 have A:IntKind.i64.wrap (a:Int)=a:=by simp[r8,p4,p5];omega
 have s:¬((a:Int)<0):=aa;have m:¬((a:Int)*(i.bytes:Int)>2^48):=by
  have:((a*i.bytes:Nat):Int)≤1099511627776:=aa;rw[fU]at this;omega
 have o:¬(Builtin.nextslicecap (0+a) 0*i.bytes>2^48):=by
  have b:=nextslicecap_le (need:=0+a) (old:=0) aa;have D:Builtin.nextslicecap (0+a) 0*i.bytes≤(2*(0+a)+200)*i.bytes:=dn _ b;have E:(2*(0+a)+200)*i.bytes=2*(a*i.bytes)+200*i.bytes:=by rw[dK,cF,bT]
  have F:i.bytes≤a*i.bytes:=Nat.le_mul_of_pos_left _ aa;omega
 let c:=Question.cut (.appendCap (0+a) 0 g) (w.tape w.drawn (.appendCap (0+a) 0 g));have I:0+a≤c:=sq _ _;have p:(choose (.appendCap (0+a) 0 g)).run P w=.ok c { w with drawn:=w.drawn+1 }:=by simp[Question.forced,c]
 refine⟨c,aa,?_⟩;have q:a*i.size=0→Builtin.zeroCells x.cells a=#[]:=fun h=>by
  simp[Builtin.zeroCells,C,h]
 unfold Builtin.append_;simp only[l,b,j,k,cU,run_underlying z,dV,y,run_underlying B,fO,if_true,asInt,asIntOf,A,aj s,qM hi,aj m,bJ];simp only[aj u,r,false_and,if_false,cU,fO,dV,qM hi,aj o,p,run_askRoom,s8 hi e,newRow,run_newObj,gG,ie];have v:∀w:World,(Builtin.firstCells i.size 0 (.slice none 0 0)).run P w=.ok #[] w:=fun w=>rfl
 have t:∀w:World,(if a*i.size=0 then(pure #[]:Sem (Array Value))else do
  let x←zeroValue g
  pure (Builtin.zeroCells x.cells a)).run P w=.ok (Builtin.zeroCells x.cells a) w:=fun w=>by
  by_cases h:a*i.size=0
  ·rw[ak h,q h];rfl
  ·rw[aj h];simp only[cU,s8 hi e,dV,fO]
 rw[v];simp only[dV];rw[t];simp only[dV,dK,Array.empty_append];rfl
theorem ann{a:List V}{w:World}(d:tL φ (.cells (a++b) 0) h w r):tL φ (.cells a 0) h w r:=by
 obtain⟨e,f,g,n,j,k,l,m⟩:=d;cases j;refine⟨e,f,g,a,rfl,?_,fun i v c=>l i v ?_,m⟩
 ·rw[aS]at k;omega
 ·rw[lJ (fN.1 c).1];exact c
theorem anm{a:Array Value}(h:bm φ b a.toList)(w:World)(e:TypeId):tL φ (.cells b 0) a.size w (w.drew.alloc (.cells a e)):=
 have h:=zM h w.drew e
 ⟨h.size,h.old,⟨rfl,rfl,rfl,fun x=>h.same.free x,fun c b t d x=>h.same.shape c b t d x⟩,h.obj⟩
variable{s:V}{G:aY}
theorem Tq(hT:cR P T){st v:TypeId}{i:TypeInfo}(J:T.bq st=some (.slice g))(hi:T.info g=some i)(M:zeroCells T g=some b)(U:b.length=i.size)
 (K:T.bq v=some (.int n)) {e:Array TypeId} (A:e[0]? =some st) (B:e[1]? =some v) {x:Operand}{y:V} (q:aJ φ s (ρ k)) (r:aJ φ y (ρ x)) (h:yY i.bytes b [s,y]=some G):
 fV P φ ρ ⟨dst,.call ⟨.builtin .append,#[k,x],e⟩,ty,pos,after,guard⟩ G:=by
 intro w;generalize I:ρ k=W at q
 generalize L:ρ x=X at r
 cases q<;>first|(cases h;done)|skip
 obtain⟨a,F,h⟩:=av.1 (show ao (gm y) _=some G from h);obtain⟨d,h⟩:=cH.1 h;cases h;rw[cu,eZ]at d;obtain⟨D,d⟩:=d;have l:a≤1099511627776∧a*i.bytes≤1099511627776:=by
  have f:=(cu _ _).mp (show and (bM a 1099511627776) (bM (dQ a i.bytes) 1099511627776)=true from d);exact⟨(eZ _ _).1 f.1,(eZ _ _).1 f.2⟩
 obtain⟨Q,rfl⟩:=u7 F;cases r;obtain⟨t,z,o,N,p⟩:=yH hT M;have E:t=i:=by have:=hT.info g i hi;rw[o]at this;exact Option.some.inj this
 subst E;have O:z.cells.size=t.size:=by have:=(p φ).length;simp at this;omega
 obtain⟨c,j,H⟩:=Tr (P:=P) (w:=w) (ty:=ty) (hT.bq J) o N O (hT.bq K) A B (kx:=Q) (show 0<a from D) l.1 l.2;have u:∀m,bm φ (rep b m) (Builtin.zeroCells z.cells m).toList:=fun m=>Hx (p φ) m
 have R:bm φ (rep b a++rep b (c-a)) (Builtin.zeroCells z.cells a++Builtin.zeroCells z.cells (c-a)).toList:=by
  rw[Array.toList_append];exact(u a).append (u (c-a))
 refine⟨.slice (some ⟨w.heap.size,0,none⟩) a c,_,_,?_,ann (anm R w g),fun Y S C=>.slice C j j⟩;simp only[execOp,resolve,invoke,builtin];simp[I,L,H]
end
theorem Ty{x y z:bP}(h:Bool.casesOn (motive:=fun _=>bP) p x y=z):x=z∨y=z:=by cases p<;>first|exact .inl h|exact .inr h
theorem TK{x y z:Option bP}(h:Bool.casesOn (motive:=fun _=>Option bP) p x y=z):x=z∨y=z:=by cases p<;>first|exact .inl h|exact .inr h
theorem anP{o:Option f}{x z:Option bP}{a:f→Option bP}(h:Option.casesOn (motive:=fun _=>Option bP) o x a=z):x=z∨∃b,a b=z:=by cases o<;>first|exact .inl h|exact .inr ⟨_,h⟩
theorem dead{p q:Prop}(hc:p)(h:p→q:=by
 intro hc
 repeat' (first|(cases hc;done)|(obtain⟨_,hc⟩:=cH.1 hc)|(obtain⟨_,_,hc⟩:=av.1 hc)|(replace hc:=dz hc aB)|(rcases anP hc with hc|⟨_,hc⟩)|(rcases TK hc with hc|hc)|(replace hc:=Option.some.inj hc)|(rcases Ty hc with hc|hc)|(split at hc)|(unfold Kr at hc)|(unfold qm at hc)|(unfold u_ at hc)|(unfold y4 at hc)|(unfold D3 at hc)|(unfold D4 at hc))):q:=h hc
def jU(P:Program)(N:eO):Prop:=∀f a,N.get none f=some a→P.funcs[f]? =some a
section
variable {P:Program}{φ:aG}{ρ:Operand→Value}{T:cg}{N:eO}{F:Fr}
theorem pH{f:Fr→V}(a:jE φ F ρ [k])(h:hD k=some f):aJ φ (f F) (ρ k):=a k aB f h
theorem yz{y:Operand}(g:jE φ F ρ [k,y])(h:iE [k,y]=some t):∃a b,vals t F=[a,b]∧aJ φ a (ρ k)∧aJ φ b (ρ y):=by
 have:=oH h g;generalize vals t F=l at this
 cases this with
 |cons c d=>cases d with
  |cons e f=>cases f;exact⟨_,_,rfl,c,e⟩
theorem lk{a:Array f}{x:f}(b:cK a.toList h=some x):a[h]? =some x:=by rw[gF]at b;simpa using b
variable{C:List V→Option aY}{G:aY}
theorem aot{l:BinOp}{z:TypeId}{y:Operand}{r:Option Tmp}{x:TypeId}{w:String}{after:Array Edge}{guard:Option (Nat×Bool)}(hT:cR P T){q:List (Fr→V)}
 (h:iE [k,y]=some q) (e:u_ T l g q=.pu t C) (A:jE φ F ρ [k,y]) (c:C (vals t F)=some G):fV P φ ρ ⟨r,.binOp l g k y z,x,w,after,guard⟩ G:=by
 unfold u_ at e;obtain⟨a,b,n,i,j⟩:=yz A h;split at e
 ·rename_i J s;split at e
  ·rename_i f m;cases e;rw[n]at c;generalize o:ρ k=D at i
   generalize p:ρ y=E at j
   cases i<;>first|(cases c;done)|skip
   cases j<;>first|(cases c;done)|skip
   exact aiX m c o p
  ·cases e
 ·split at e
  ·rename_i f m;cases e;rw[n]at c;generalize o:ρ k=D at i
   generalize p:ρ y=E at j
   cases i<;>first|(cases c;done)|skip
   cases j<;>first|(cases c;done)|skip
   exact aqC m c o p
  ·cases e
 ·rename_i d H I s;have u:∀neg,l=(if neg then .neq else .eql)→ox neg d (vals q F)=some G→fV P φ ρ ⟨r,.binOp l g k y z,x,w,after,guard⟩ G:=by
   intro neg B c;rw[n]at c;obtain⟨v,c⟩:=cH.1 (show aQ (xB d a) (FH neg [a,b])=some G from c);refine agr B (hT.bq s) i j ?_ v c rfl rfl;cases d<;>simp[xB]at v⊢
  split at e
  ·cases e;exact u false rfl c
  ·cases e;exact u true rfl c
  ·cases e
 ·cases e
theorem aov{d:TypeId}{o:Option Tmp}{u:TypeId}{s:String}{after:Array Edge}{guard:Option (Nat×Bool)}(hT:cR P T){f:Fr→V}
 (h:hD k=some f) (a:qm T g d [f]=.pu t C) (q:jE φ F ρ [k]) (l:C (vals t F)=some G):fV P φ ρ ⟨o,.convert g d k,u,s,after,guard⟩ G:=by
 have b:=pH q h;unfold qm at a;split at a
 ·rename_i w m j c;cases a;have i:(match [f F]with|[.int _ n]=>iO m (aC m n)|_=>none)=some G:=l;generalize f F=v at b i
  generalize r:ρ k=y at b
  cases b<;>first|(cases i;done)|skip
  cases i;exact UQ r (hT.bq j) (hT.bq c)
 ·rename_i e j c;split at a
  ·rename_i p;cases a;exact aq2 (hT.bq j) (hT.bq c) (hT.bq p) b l
  ·cases a
 ·split at a
  ·cases a
  ·cases a
 ·cases a
end
section
variable {P:Program}{φ:aG}{ρ:Operand→Value}{T:cg}{N:eO}{F:Fr}
theorem R7{y z:Operand}(m:jE φ F ρ [k,y,z])(h:iE [k,y,z]=some t):∃a b c,vals t F=[a,b,c]∧aJ φ a (ρ k)∧aJ φ b (ρ y)∧aJ φ c (ρ z):=by
 have:=oH h m;generalize vals t F=l at this
 cases this with
 |cons d e=>cases e with
  |cons f g=>cases g with
   |cons i j=>cases j;exact⟨_,_,_,rfl,d,f,i⟩
variable{w:Array TypeId}{C:List V→Option aY}{G:aY}
theorem aou{b:Builtin}{o:Array Operand}{J:Option Tmp}{Q:String}{after:Array Edge}{guard:Option (Nat×Bool)}(hT:cR P T){I:List (Fr→V)}
 (h:iE o.toList=some t) (c:y4 T b w.toList t=.pu I C) (K:jE φ F ρ o.toList) (j:C (vals I F)=some G):fV P φ ρ ⟨J,.call ⟨.builtin b,o,w⟩,g,Q,after,guard⟩ G:=by
 have c:=dz c aB;obtain⟨S,L,c⟩:=av.1 c;obtain⟨d,r,c⟩:=av.1 c;have u:=lk L;have k:=oH h K;have B:∀ {f:V→Option aY},un f (vals t F)=some G→∃x v,o=#[x]∧aJ φ v (ρ x)∧f v=some G:=by
  intro f hh;generalize vals t F=l at k hh
  obtain⟨m⟩:=o
  match l,hh with
  |[v],hh=>
   match m with
   |[]=>cases k
   |[x]=>cases k with|cons q n=>exact⟨x,v,rfl,q,hh⟩
   |_::_::_=>cases k with|cons q n=>cases n
  |[],hh=>cases hh
  |_::_::_,hh=>cases hh
 cases b<;>simp only[reduceCtorEq]at c
 case append=>
  split at c
  ·rename_i e;obtain⟨i,hi,c⟩:=av.1 c;obtain⟨z,A,c⟩:=av.1 c;obtain⟨W,O,c⟩:=av.1 c;obtain⟨H,c⟩:=cH.1 c;rw[beq_eq,gO]at H;cases z
   ·cases c
   ·cases c;obtain⟨U,N,A⟩:=av.1 A;obtain⟨R,M,A⟩:=av.1 A;cases R<;>first|(cases A;done)|skip
    generalize vals t F=l at k j
    obtain⟨m⟩:=o
    match l,j with
    |[s,y],j=>
     match m with
     |[]=>cases k
     |[_]=>cases k with|cons _ n=>cases n
     |[a,b]=>cases k with|cons q n=>cases n with|cons D E=>exact Tq hT r hi O H M u (lk N) q D j
     |_::_::_::_=>cases k with|cons q n=>cases n with|cons D E=>cases E
    |[],j=>cases j
    |[_],j=>cases j
    |_::_::_::_,j=>cases j
  ·cases c
 case cap=>
  split at c
  ·cases c;obtain⟨x,v,rfl,p,j⟩:=B j;exact Ua u (hT.bq r) p j
  ·cases c
 case copy=>
  split at c
  ·obtain⟨s,_,c⟩:=av.1 c;cases c
  ·cases c
 case len=>
  split at c
  ·cases c;obtain⟨x,v,rfl,p,j⟩:=B j;exact al' u (hT.bq r) p j
  ·cases c;obtain⟨x,v,rfl,p,j⟩:=B j;exact al9 u (hT.bq r) p j
  ·cases c;obtain⟨x,v,rfl,p,j⟩:=B j;cases j;exact al8 u (hT.bq r)
  ·cases c
  ·cases c
 case max=>cases c;exact amS k j
 case min=>cases c;exact amW k j
theorem Qz(hT:cR P T)(b7:jU P N)(a4:∀f,ρ (.func f)=.func (.func f) #[] #[]) (o:Oper) (g:cop N T o.op=.pu t C) (A:jE φ F ρ o.op.operands.toList) (j:C (vals t F)=some G):fV P φ ρ o G:=by
 obtain⟨a9,V,ty,bb,after,guard⟩:=o;simp only at g A;cases V<;>simp only[cop,reduceCtorEq]at g<;>simp only[Op.operands]at A
 case move x=>
  obtain⟨f,r,g⟩:=av.1 (dz g aB);cases g;cases j;exact amZ (pH A r)
 case pick c x y=>
  obtain⟨I,r,g⟩:=av.1 (dz g aB);cases g;obtain⟨a,b,d,B,w,L,h3⟩:=R7 A r;rw[B]at j;generalize D:ρ c=c' at w
  cases w<;>first|(cases j;done)|skip
  rename_i H;cases H
  ·cases j;exact Qs D (by simpa using h3)
  ·cases j;exact Qs D (by simpa using L)
 case alloc H=>
  obtain⟨zs,U,g⟩:=av.1 (dz g aB);cases g;cases j;exact Tg hT U
 case box H x=>
  obtain⟨f,r,g⟩:=av.1 (dz g aB);cases g;obtain⟨hk,j⟩:=cH.1 (show aQ (bg (f F)) (some (aY.new (cellsOf (f F)) .ptr))=some G from j);cases j;exact TO (pH A r) hk
 case build H parts=>exact TQ hT g A j
 case buildSlice H n parts=>exact TP hT g A j
 case nilCheck x=>
  obtain⟨f,r,g⟩:=av.1 (dz g aB);cases g;have w:=pH A r;have z:zN [f F]=some G:=j;generalize f F=v at w z
  generalize D:ρ x=x' at w
  cases w<;>first|(cases z;done)|skip
  ·rename_i b o l O;cases z;exact P2 D (.ptr O)
  ·rename_i k c o cs vs y hi g B;cases z;exact P2 D (.cY hi g B)
 case binOp V H x y be=>
  obtain⟨I,r,g⟩:=av.1 (dz g aB);cases M:u_ T V H I<;>rw[M]at g<;>simp only[Option.some.injEq,reduceCtorEq,bP.pu.injEq]at g;obtain⟨rfl,rfl⟩:=g;exact aot hT r M A j
 case unOp V H x=>
  obtain⟨f,r,g⟩:=av.1 (dz g aB);have w:=pH A r;cases V<;>simp only[reduceCtorEq]at g
  ·cases g;have z:(match [f F]with|[.int k n]=>iO k (aC k (Int.sub (.ofNat 0) n))|_=>none)=some G:=j;generalize f F=v at w z
   generalize D:ρ x=x' at w
   cases w<;>first|(cases z;done)|skip
   cases z;exact anl D
  ·cases g;have z:(match [f F]with|[.bool b]=>iU (!b)|_=>none)=some G:=j;generalize f F=v at w z
   generalize D:ρ x=x' at w
   cases w<;>first|(cases z;done)|skip
   cases z;exact anC D
 case convert s d x=>
  obtain⟨f,r,g⟩:=av.1 (dz g aB);cases M:qm T s d [f]<;>rw[M]at g<;>simp only[Option.some.injEq,reduceCtorEq,bP.pu.injEq]at g;obtain⟨rfl,rfl⟩:=g;exact aov hT r M A j
 case makeFunc W first captured=>
  cases W<;>simp only[reduceCtorEq]at g;obtain⟨I,r,g⟩:=av.1 (dz g aB);cases g;obtain⟨q,D,j⟩:=av.1 j;cases j;obtain⟨a,J,D⟩:=av.1 D;cases D;have R:jE φ F ρ (cW first.toList captured.toList):=by
   rw[iP];intro y S;exact A y (by simpa using S)
  have B:=oH r R;rw[iP,List.map_append]at B;rw[gO]at J;rw[e4]at J;split at J
  ·cases J;have hl:first.toList.length=(first.toList.map ρ).length:=aB
   refine amK ?_ ?_
   ·have:=B.take first.toList.length
    rw[hl,p_]at this;rw[←hl]at this;exact this
   ·have:=B.drop first.toList.length
    rw[hl,uS]at this;rw[←hl]at this;rw[gO,kG];exact this
  ·cases J
 case makeSlice H l c=>
  obtain⟨I,r,g⟩:=av.1 (dz g aB);obtain⟨d,E,g⟩:=av.1 g;cases d<;>simp only[reduceCtorEq]at g;obtain⟨i,hi,g⟩:=av.1 g;obtain⟨zs,U,g⟩:=av.1 g;obtain⟨K,g⟩:=cH.1 g;cases g;rw[beq_eq,gO]at K;obtain⟨a,b,B,w,L⟩:=yz A r;rw[B]at j;exact amN hT E hi U K w L j
 case slice H x lo hi mx=>
  obtain⟨I,r,g⟩:=av.1 (dz g aB);obtain⟨d,E,g⟩:=av.1 g;have R:jE φ F ρ (x::(lo.toList++hi.toList++mx.toList)):=by
   intro y S;refine A y ?_;cases lo<;>cases hi<;>cases mx<;>simpa using S
  cases d<;>simp only[reduceCtorEq]at g
  case string=>
   cases g;obtain⟨a,l,h,m,J,hl,hh,Q,_,j⟩:=HU r R j;cases a<;>first|(cases j;done)|skip
   exact aqh (n:=1) (hT.bq E) J hl hh Q ⟨_,rfl⟩ j
  case slice e=>
   obtain⟨s,K,g⟩:=av.1 g;cases g;obtain⟨a,l,h,m,J,hl,hh,Q,X,j⟩:=HU r R j;have ab:∀s,a≠ .str s:=by intro s he;subst he;cases j
   have z:Af s a l h m=some G:=by
    cases a<;>first|exact absurd rfl (ab _)|exact j
   exact aqg hT E K J hl hh Q X ab z
  case array n e=>
   obtain⟨s,K,g⟩:=av.1 g;cases g;obtain⟨a,l,h,m,J,hl,hh,Q,X,j⟩:=HU r R j;exact aqd hT E K J hl hh Q X j
 case fieldAddr s x f=>
  obtain⟨p,r,g⟩:=av.1 (dz g aB);obtain⟨d,E,g⟩:=av.1 g;cases d<;>simp only[reduceCtorEq]at g;obtain⟨fd,Z,g⟩:=av.1 g;obtain⟨n,hn,g⟩:=av.1 g;obtain⟨U,g⟩:=cH.1 g;cases g;rw[gF]at Z;exact ag4 hT E Z hn (by intro h0;subst h0;simp[fh]at U) (pH A r) j
 case indexAddr H x i=>
  obtain⟨I,r,g⟩:=av.1 (dz g aB);obtain⟨d,E,g⟩:=av.1 g;obtain⟨a,b,B,w,L⟩:=yz A r;cases d<;>simp only[reduceCtorEq]at g
  case slice e=>
   obtain⟨s,K,g⟩:=av.1 g;cases g;rw[B]at j;exact aiR hT E K w L j
  case array n e=>
   obtain⟨s,K,g⟩:=av.1 g;cases g;rw[B]at j;exact aiQ hT E K w L j
 case index H x i=>
  obtain⟨I,r,g⟩:=av.1 (dz g aB);obtain⟨d,E,g⟩:=av.1 g;obtain⟨a,b,B,w,L⟩:=yz A r;cases d<;>simp only[reduceCtorEq]at g
  case string=>
   cases g;rw[B]at j;exact aiU (hT.bq E) w L j
 case extract x i=>
  obtain⟨f,r,g⟩:=av.1 (dz g aB);cases g;have w:=pH A r;have z:zj i [f F]=some G:=j;generalize f F=v at w z
  cases v<;>first|(cases z;done)|skip
  obtain⟨u,hu,z⟩:=av.1 (show ao (cK _ i) (fun v=>some (aY.val v))=some G from z);cases z;rw[gF]at hu;exact agQ w hu
 case call c=>
  obtain⟨callee,al,ts⟩:=c;have Y:=dz g aB;clear g;have g:=Y;clear Y;have ac:jE φ F ρ al.toList:=fun y S=>A y (by simp[Call.operands];exact .inr (by simpa using S))
  cases callee with
  |value x=>
   cases x<;>simp only[]at g
   case func f=>
    obtain⟨W,aw,g⟩:=av.1 g;obtain⟨I,r,g⟩:=av.1 g;cases O:W.body with
    |some c=>rw[O]at g;cases g
    |none=>
     rw[O]at g;obtain⟨a3,g⟩:=cH.1 g;obtain⟨g',a0,g⟩:=av.1 g;cases g;exact agP (a4 f) (b7 f W aw) O (by simpa using a3) a0 (oH r ac) j
   all_goals
    obtain⟨I,r,g⟩:=av.1 g;cases g
  |invoke x m=>cases g
  |builtin b=>
   obtain⟨I,r,g⟩:=av.1 g;cases M:y4 T b ts.toList I<;>rw[M]at g<;>simp only[Option.some.injEq,reduceCtorEq,bP.pu.injEq]at g;obtain⟨rfl,rfl⟩:=g;exact aou hT r M ac j
 all_goals exact dead g
end
section
variable {P:Program}{φ:aG}{ρ:Operand→Value}{T:cg}{N:eO}{F:Fr}{H:af}{w:World}
variable{y:V→V→Option Bool}
theorem zv(h:rI T g=some y):∃n e ds,T.bq g=some (.array n e)∧wU T g=some ds∧
 y=fun a b=>match a with|.agg x=>(match b with|.agg i=>m9 ds x i|_=>aM)|_=>aM:=by
 obtain⟨ds,c,h⟩:=av.1 (show ao (wU T g) _=some y from h);cases h;obtain⟨d,f,h⟩:=av.1 (show ao (T.bq g) _=some ds from c);cases d<;>first|(cases h;done)|exact⟨_,_,_,f,c,rfl⟩
variable{s:V}
theorem Gm{ds:List TypeDesc}{a:V}(h:(match a with|.agg x=>(match s with|.agg y=>m9 ds x y|_=>aM)|_=>aM)=some p):∃x y,a=.agg x∧s=.agg y∧m9 ds x y=some p:=by
 cases a<;>first|(cases h;done)|skip
 cases s<;>first|(cases h;done)|skip
 exact⟨_,_,rfl,rfl,h⟩
theorem aJ.yW{v:Value}(h:aJ φ (.agg b) v):∃a,v=.agg ⟨a⟩∧bm φ b a:=by
 cases h with
 |agg h=>exact⟨_,rfl,h⟩
theorem Pb(hT:cR P T)(i:rI T g=some y){a:V}{b:Value}(e:aJ φ a x)(f:aJ φ s b)(h:y a s=some p)(w:World):(Op.equal g x b).run P w=.ok p w:=by
 obtain⟨_,_,ds,_,c,rfl⟩:=zv i;obtain⟨l,n,rfl,rfl,d⟩:=Gm h;obtain⟨m,rfl,j⟩:=e.yW;obtain⟨o,rfl,k⟩:=f.yW;exact Td hT c j k d w
theorem apM(a b:Value):Instr.sameNow (.array h g) a b=none:=by
 cases a<;>cases b<;>rfl
def r5(φ:aG)(i:Nat):List (V×V)→List MapEntry→Prop
 |[],[]=>True
 |(k,v)::a,e::b=>aJ φ k e.key∧aJ φ v e.val∧e.born=i∧r5 φ (i+1) a b
 |_,_=>False
theorem agp:∀ {i:Nat},r5 φ i O S↔S.length=O.length∧∀j k v,O[j]? =some (k,v)→∃e:MapEntry,S[j]? =some e∧aJ φ k e.key∧aJ φ v e.val∧e.born=i+j:=by
 induction O generalizing S with
 |nil=>
  intro i;cases S with
  |nil=>simp[r5]
  |cons=>simp[r5]
 |cons x O r=>
  intro i;obtain⟨k,v⟩:=x;cases S with
  |nil=>simp[r5]
  |cons e S=>
   simp only[r5,r,cL];constructor
   ·rintro⟨l,c,u,w,q⟩;refine⟨aa,?_⟩;intro j g h a;cases j with
    |zero=>
     simp at a;obtain⟨rfl,rfl⟩:=a;exact⟨e,aB,l,c,aa⟩
    |succ j=>
     obtain⟨d,b,f,g3,p⟩:=q j g h (by simpa using a);exact⟨d,by simpa using b,f,g3,aa⟩
   ·rintro⟨l,c⟩;obtain⟨s,b,f,g3,p⟩:=c 0 k v aB;simp at b;subst b;refine⟨f,g3,aa,aa,?_⟩;intro j g h a;obtain⟨d,m,n,o,t⟩:=c (j+1) g h (by simpa using a);exact⟨d,by simpa using m,n,o,aa⟩
theorem PE:q7 φ O S↔r5 φ 0 O S:=by
 rw[agp];simp[q7]
theorem PI{e:V×V}{r:Option (Nat×V)}(h:pC y s (e::O) a=some r):
 ∃b,y s e.1=some b∧((b=true∧r=some (a,e.2))∨(b=false∧pC y s O (a+1)=some r)):=by
 obtain⟨b,c,h⟩:=av.1 (show ao (y s e.1) (fun r=>Bool.casesOn (motive:=fun _=>Option (Option (Nat×V))) r (pC y s O (a+1)) (some (some (a,e.2))))=some r from h);cases b with
 |true=>cases h;exact⟨true,c,.inl ⟨rfl,rfl⟩⟩
 |false=>exact⟨false,c,.inr ⟨rfl,h⟩⟩
def IQ(φ:aG):Option (Nat×V)→Option (Nat×Value)→Prop
 |none,none=>True
 |some (i,v),some (j,a)=>i=j∧aJ φ v a
 |_,_=>False
theorem ag5(hT:cR P T)(l:rI T g=some y)(m:aJ φ s x)(w:World):∀ {c:List (V×V)}{a:List MapEntry}{i:Nat}{r:Option (Nat×V)},r5 φ i c a→pC y s c i=some r→
 ∃f,(Instr.findAsking g x a i).run P w=.ok f w∧IQ φ r f:=by
 intro c;induction c with
 |nil=>
  intro a i r d h;cases a with
  |nil=>cases h;exact⟨none,rfl,trivial⟩
  |cons=>exact d.elim
 |cons z c u=>
  intro a i r d h;obtain⟨B,v⟩:=z;cases a with
  |nil=>exact d.elim
  |cons e a=>
   obtain⟨j,p,A,q⟩:=d;obtain⟨b,k,⟨rfl,rfl⟩|⟨rfl,t⟩⟩:=PI h
   ·exact⟨some (i,e.val),by simp[Instr.findAsking,Pb hT l m j k],rfl,p⟩
   ·obtain⟨f,n,o⟩:=u q t;exact⟨f,by simp[Instr.findAsking,Pb hT l m j k,n],o⟩
theorem N7(hT:cR P T)(i:rI T g=some y)(m:aJ φ s x){r:Option (Nat×V)}(l:q7 φ O S)(h:pC y s O 0=some r)(w:World):
 ∃c,(Instr.findKey g x S).run P w=.ok c w∧IQ φ r c:=by
 have f:=PE.1 l;obtain⟨_,_,ds,d,o,p⟩:=zv i;cases S with
 |nil=>
  cases O with
  |nil=>cases h;exact⟨none,by simp[Instr.findKey,run_underlying (hT.bq d),Instr.findNow],trivial⟩
  |cons n O=>obtain⟨a,b⟩:=n;exact f.elim
 |cons e S=>
  obtain⟨c,j,k⟩:=ag5 hT i m w f h;exact⟨c,by simp[Instr.findKey,run_underlying (hT.bq d),Instr.findNow,apM,j],k⟩
theorem Ut(hT:cR P T)(b:T.bq g=some E)(c:vA E=true)(a:Bool)(n:Nat)(v:Value)(w:World):(Instr.checkKey a (n+1) g v).run P w=.ok () w:=by
 have d:=run_underlying (hT.bq b) w;cases E<;>first|(cases c;done)|(simp only[Instr.checkKey,cU,d,dV];rfl)
theorem Uu(hT:cR P T)(k:T.bq g=some E)(l:vA E=true)(f:Bool)(n:Nat)(e:List Value)(w:World)(u:(sizeOf g).run P w=.ok 1 w):∀(d i:Nat) (c:List V) (r:Bool),bm φ c (e.drop i)→m9 (z6 E d) c c=some r→
 (forIn (tE i d) PUnit.unit (fun j _=>do
   Instr.checkKey f (n+1) g (←part g ⟨e⟩ (j*(←sizeOf g)))
   pure (ForInStep.yield PUnit.unit)):Sem PUnit).run P w=.ok () w:=by
 intro d;induction d with
 |zero=>intro i c r _ _;simp
 |succ d B=>
  intro i c r v h;obtain⟨x,c,y,I,a,b,rfl,t,F,q,rfl⟩:=Eh (show m9 (E::z6 E d) c c=some r from h);cases t;obtain⟨o,H,A,G,z⟩:=v.cons_inv;obtain⟨s,p⟩:=FA A;have m:=B (i+1) c b (by rw[p];exact z) q;have C:=G7 hT k l (cs:=⟨e⟩) (i:=i*1) (v:=o) (by simpa using s) w;have D:=Ut hT k l f n o w;rw[List.range'_succ,List.forIn_cons];simp only[cU,u,C,D,dV,fO]at m⊢;exact m
theorem KD(hT:cR P T)(q:rI T g=some y)(r:aJ φ s x)(h:y s s=some p)(b:Bool)(w:World):(Instr.checkKey b 10000 g x).run P w=.ok () w:=by
 obtain⟨n,e,ds,d,a,rfl⟩:=zv q;obtain⟨z,D,rfl,o,j⟩:=Gm h;cases o;obtain⟨A,rfl,v⟩:=r.yW;obtain⟨B,f,a⟩:=av.1 (show ao (T.bq g) _=some ds from a);rw[d]at f;cases f;have u:=hT.bq d;obtain⟨C,m,a⟩:=av.1 (show ao (T.bq e) _=some ds from a);obtain⟨k,a⟩:=cH.1 a;obtain⟨i,l,a⟩:=av.1 a;obtain⟨c,a⟩:=cH.1 a;cases a;rw[beq_eq]at c;have t:(sizeOf e).run P w=.ok 1 w:=by
  have:=qM (hT.info e i l) w;simp[sizeOf,this,c]
 have:=Uu hT m k b 9998 A w t n 0 z p v j;rw[show(10000:Nat)=9998+1+1 from rfl];unfold Instr.checkKey;simp only[cU,run_underlying u,dV];simp at this⊢;rw[this];rfl
theorem GA(h:H.jg a=some O):H.get a=.ck (.map O):=by
 unfold af.jg at h;cases b:H.get a<;>rw[b]at h<;>first|(cases h;done)|skip
 rename_i o;cases o<;>cases h;rfl
theorem zH(e:Rel φ H w)(d:φ a=some Q)(h:H.jg a=some O):∃b,w.heap[Q.c]? =some (.map ⟨b⟩ O.length)∧q7 φ O b:=(e.ck d (GA h)).2
def Gb:Obj→Bool
 |.cells _ _ _=>true
 |_=>false
theorem uC{o:Obj}(h:w.heap[a]? =some o)(b:Gb o=false):(getObj a).run P w=.ok o w:=by
 cases o<;>first|(cases b;done)|simp[getObj,Sem.run,h]
section
variable {dst:Option Tmp}{ty:TypeId}{pos:String}{after:Array Edge}{guard:Option (Nat×Bool)}
theorem amA(hT:cR P T)(X:Rel φ H w){A e:TypeId}{B:Operand}(S:T.bq g=some (.map A e))(n:rI T A=some y){i:TypeInfo}(hi:T.info e=some i)(Y:i.zero=some x)(Z:mU 20 x=some s)
 {m c:V} (F:aJ φ m (ρ k)) (E:aJ φ c (ρ B)) {v:V} (C:uh y s p [m,c] H=some v):∃a,(execOp ρ ⟨dst,.lookup g k B p,ty,pos,after,guard⟩).run P w=.ok (.value a) w∧aJ φ v a:=by
 obtain⟨b,R,h⟩:=av.1 (show ao (y c c) _=some v from C);clear C;have t:=run_underlying (hT.bq S) w;have f:=fun L=>KD hT n E R L w
 have I:=s8 (hT.info e i hi) Y w;have J:=C1 φ _ _ _ Z;have o:∀ {v:V}{a:Value} (b:Bool),aJ φ v a→aJ φ (uk p v b) (if p then .tuple #[a,.bool b]else a):=by
  intro v a b G;cases p
  ·exact G
  ·exact .az (.cons G (.cons (.bool b) .nil))
 generalize z:ρ k=x' at F
 cases F<;>first|(cases h;done)|skip
 ·rename_i ab l W;obtain⟨es,O,h⟩:=av.1 (show ao (H.jg ab) _=some v from h);obtain⟨r,Q,h⟩:=av.1 h;obtain⟨ae,M,N⟩:=zH X W O;obtain⟨K,g3,d⟩:=N7 hT n E N Q w;have D:=uC (P:=P) M rfl;cases r with
  |none=>
   cases h;cases K with
   |none=>
    refine⟨_,?_,o false J⟩;simp only[execOp,Instr.lookup,z,cU,t,dV,D,f,g3,I,fO]
   |some q=>exact d.elim
  |some q=>
   obtain⟨j,u⟩:=q;cases h;cases K with
   |none=>exact d.elim
   |some q'=>
    obtain⟨j',u'⟩:=q';refine⟨_,?_,o true d.2⟩;simp only[execOp,Instr.lookup,z,cU,t,dV,D,f,g3,fO]
 ·cases h;refine⟨_,?_,o false J⟩;have g3:(Instr.findKey A (ρ B) []).run P w=.ok none w:=by
   obtain⟨_,_,_,U,_⟩:=zv n;simp[Instr.findKey,run_underlying (hT.bq U),Instr.findNow]
  simp only[execOp,Instr.lookup,z,cU,t,dV,f,g3,I,fO]
theorem al_(hT:cR P T)(r:Rel φ H w){t e:TypeId}(o:T.bq g=some (.map t e)){f:Array TypeId}(b:f[0]? =some g)(a:aJ φ s (ρ k)){v:V}(h:ug [s] H=some v):
 ∃i,(execOp ρ ⟨dst,.call ⟨.builtin .len,#[k],f⟩,ty,pos,after,guard⟩).run P w=.ok (.value i) w∧aJ φ v i:=by
 have c:=run_underlying (hT.bq o) w;generalize d:ρ k=z at a
 cases a<;>first|(cases h;done)|skip
 ·rename_i u l q;obtain⟨x,n,h⟩:=av.1 (show ao (H.jg u) _=some v from h);cases h;obtain⟨y,j,m⟩:=zH r q n;have p:=uC (P:=P) j rfl;refine⟨_,?_,.int .i64 _⟩;simp[execOp,resolve,invoke,builtin,Builtin.len_,d,b,c,p,goInt,gO,m.1]
 ·cases h;refine⟨_,?_,.int .i64 _⟩;simp[execOp,resolve,invoke,builtin,Builtin.len_,d,b,c,goInt]
theorem agq:∀ {i j:Nat}{e:V×V},r5 φ i O S→O[j]? =some e→∃x:MapEntry,S.find? (fun x=>x.born==i+j)=some x∧aJ φ e.1 x.key∧aJ φ e.2 x.val:=by
 induction O generalizing S with
 |nil=>intro i j e _ h;simp at h
 |cons y O m=>
  intro i j e b h;obtain⟨k,v⟩:=y;cases S with
  |nil=>exact b.elim
  |cons x S=>
   obtain⟨f,g,a,l⟩:=b;cases j with
   |zero=>
    simp at h;subst h;exact⟨x,by simp[a],f,g⟩
   |succ j=>
    obtain⟨n,c,d,g3⟩:=m l (by simpa using h);refine⟨n,?_,d,g3⟩;rw[List.find?_cons_of_neg (by simp[a])];rw[←c];congr 1;funext q;congr 1;omega
theorem ago(q:Rel φ H w)(p:aJ φ s (ρ k)){v:V}(h:sF [s] H=some v):
 ∃t,(execOp ρ ⟨dst,.entry k,ty,pos,after,guard⟩).run P w=.ok (.value t) w∧aJ φ v t:=by
 generalize L:ρ k=Q at p
 cases p<;>first|(cases h;done)|skip
 rename_i b o l E;cases o with
 |succ o=>cases h
 |zero=>
  have a:(match H.get b with
   |.ck (.iter s _ _ d r)=>ao (H.jg s) fun c=>aQ (bn (cr c) r)<|ao d fun i=>ao (cK c i) fun e=>some (.az [e.1,e.2])
   |_=>aM)=some v:=h
  cases n:H.get b<;>rw[n]at a<;>first|(cases a;done)|skip
  rename_i M;cases M<;>first|(cases a;done)|skip
  rename_i O since left d r;obtain⟨c,D,a⟩:=av.1 a;obtain⟨g,a⟩:=cH.1 a;obtain⟨i,j,a⟩:=av.1 a;obtain⟨e,m,a⟩:=av.1 a;cases a;obtain⟨G,N,seen,z,A,_,C,_⟩:=q.ck E n;obtain⟨u,g3,B⟩:=zH q z D;rw[beq_eq,gO]at g;rw[←C]at j;rw[gF]at m;obtain⟨k,f,x,y⟩:=agq (PE.1 B) m;rw[dK]at f;have J:=uC (P:=P) A rfl;have K:=uC (P:=P) g3 rfl;refine⟨.tuple #[k.key,k.val],?_,.az (.cons x (.cons y .nil))⟩;have F:(⟨seen⟩:Array Nat).back?=some i:=by rw[Array.back?_eq_getElem?];simpa [List.getLast?_eq_getElem?]using j
  simp only[execOp,Instr.entry,L,G,cE,cU,J,dV,F,K,g];have I:(⟨u⟩:Array MapEntry).find? (fun k=>k.born==i)=some k:=by simpa using f
  simp[I]
end
end
theorem af.aK(H:af)(a b:Nat)(o:cP):(H.set a o).get b=if a=b then o else H.get b:=aO.aK cP.none H.m a b o
theorem af.bf(H:af)(b:Nat)(o:cP):(H.push o).get b=if H.next=b then o else H.get b:=aO.aK cP.none H.m H.next b o
theorem gq:c.fR a h=true↔h=0∨∃f b,c.get h=.bB f b∧b≤a:=by
 cases h with
 |zero=>exact⟨fun _=>.inl rfl,fun _=>rfl⟩
 |succ h=>
  have e:c.fR a (h+1)=cP.casesOn (motive:=fun _=>Bool) (c.get (h+1)) false (fun _ _=>false) (fun _ b=>bM b a) (fun _=>false):=rfl;rw[e];cases d:c.get (h+1)with
  |bB f b=>simp;exact⟨fun d=>⟨_,_,⟨rfl,rfl⟩,d⟩,fun⟨_,_,⟨_,e⟩,d⟩=>e▸d⟩
  |_=>simp
theorem cells?_some(h:c.cells? a=some b):∃g,c.get a=.cells b g∧c.fR a g=true:=by
 unfold af.cells? at h;cases d:c.get a with
 |cells i g=>
  rw[d]at h;obtain⟨e,f⟩:=cH.1 h;cases f;exact⟨g,rfl,e⟩
 |_=>rw[d]at h;cases h
section
variable {P:Program}{φ:aG}{H:af}{w:World}
theorem ams(k:Rel φ H w)(i:φ a=some Q){v:V}(b:H.load a h=some v):∃d,w.cell? ⟨Q.c,Q.base+h,none⟩=some d∧aJ φ v d:=by
 obtain⟨l,j,b⟩:=av.1 b;obtain⟨g,e,f⟩:=cells?_some j;rw[gF]at b;exact k.cell i e f b
variable{u:Nat}
theorem xO(C:Rel φ H w)(z:φ a=some Q)(e:H.cS a h u=some b):
 ∃o,o.length=u∧bm φ b o∧∀j v,o[j]? =some v→w.cell? ⟨Q.c,Q.base+h+j,none⟩=some v:=by
 obtain⟨m,A,e⟩:=av.1 e;obtain⟨g,t,y⟩:=cells?_some A;rw[e4,kG]at e;split at e
 ·rename_i B;cases e;rw[gZ]at B;have q:∀j,j<u→∃v f,m[h+j]? =some v∧w.cell? ⟨Q.c,Q.base+h+j,none⟩=some f∧aJ φ v f:=by
   intro j l;have s:h+j<m.length:=aa;obtain⟨f,k,d⟩:=C.cell z t y (i:=h+j) (v:=m[h+j]) (by simp[s]);exact⟨_,f,by simp[s],by rw[←jl]at k;exact k,d⟩
  refine⟨(oW u).map fun j=>(w.cell? ⟨Q.c,Q.base+h+j,none⟩).getD undef,aB,?_,?_⟩
  ·refine .Qe (by simp;omega) (fun i x n=>?_);have hi:i<u:=by
    have:=(fN.1 n).1;simp at this;omega
   obtain⟨v,f,k,d,p⟩:=q i hi;have:x=v:=by
    rw[wH hi,q5,k]at n;exact(Option.some.inj n).symm
   subst this;exact⟨f,by simp[hi,d],p⟩
  ·intro j v l;have r:j<u:=by
    have:=(fN.1 l).1;simpa using this
   obtain⟨D,E,k,d,p⟩:=q j r;simp[r,d]at l;rw[d,l]
 ·cases e
variable{L:Nat}
theorem HE(k:Rel φ H w){q:List V}{y:Obj}(hi:φ.im a=some y)(f:bm φ b D)(l:∀i v,D[i]? =some v→Obj.at y (h+i) v)(d:cq (eC b u) L=some q):
 ∃e,e.length=L∧bm φ q e∧∀j v,e[j]? =some v→w.cell? ⟨a,h+u+j,none⟩=some v:=by
 rw[e4,kG]at d;split at d
 ·rename_i g;cases d;rw[gZ]at g;have m:=f.length;refine⟨(D.drop u).take L,by simp;omega,(f.drop u).take L,?_⟩;intro j v c;rw[List.getElem?_take]at c;split at c
  ·rw[q5]at c;have:=l _ _ c w a (k.fC hi).obj;rw[jl];exact this
  ·cases c
 ·cases d
variable {ρ:Operand→Value}{T:cg}{N:eO}{F:Fr}
theorem Ab(hl:D.length=u)(b:∀j v,D[j]? =some v→w.cell? ⟨a,h+j,none⟩=some v):(loadCells ⟨a,h,none⟩ u).run P w=.ok D.toArray w:=by
 rw[←hl];exact run_loadCells_list w _ D (fun j v c=>by rw[mu];exact b j v c)
variable{s:V}
theorem Pw(hT:cR P T)(t:Rel φ H w)(r:T.isAgg g=some p)(B:iQ T g=some h)(F:aJ φ s x){v:V}(d:iq p h [s] H=some v):
 ∃a,x=.pointer (some a)∧∃j,(loadVar g a).run P w=.ok j w∧aJ φ v j:=by
 cases F<;>first|(cases d;done)|skip
 ·rename_i b o l A;refine⟨_,rfl,?_⟩;cases p with
  |false=>
   obtain⟨j,f,i⟩:=ams t A (show H.load b o=some v from d);exact⟨j,by simp[loadVar,CI hT r,f],i⟩
  |true=>
   obtain⟨e,n,d⟩:=av.1 (show ao (H.cS b o h) (fun e=>some (.agg e))=some v from d);cases d;obtain⟨u,f,i,m⟩:=xO t A n;refine⟨.agg ⟨u⟩,?_,.agg i⟩;simp only[loadVar,cU,CI hT r,dV,if_true,l6 hT B,Ab f m,fO]
 ·rename_i k c o e G y hi n C;refine⟨_,rfl,?_⟩;have D:=(t.fC hi).obj;cases p with
  |false=>
   have z:cK e k=some v:=d;rw[gF]at z;obtain⟨j,f,i⟩:=n.get _ _ z;have m:=C _ _ f w c D;exact⟨j,by simp[loadVar,CI hT r,m],i⟩
  |true=>
   obtain⟨q,E,d⟩:=av.1 (show ao (cq (eC e k) h) (fun e=>some (.agg e))=some v from d);cases d;obtain⟨u,f,i,m⟩:=HE t hi n C E;refine⟨.agg ⟨u⟩,?_,.agg i⟩;simp only[loadVar,cU,CI hT r,dV,if_true,l6 hT B,Ab f m,fO]
variable{j:List UInt8}
theorem J8(h:bm φ b D)(a:bytesOf b=some j):D=j.map fun c=>Value.int .u8 c.toNat:=by
 induction b generalizing D j with
 |nil=>cases h;cases a;rfl
 |cons v b i=>
  cases h with
  |cons d e=>
   cases d<;>first|(cases a;done)|skip
   rename_i k n;cases k<;>cases n<;>first|(cases a;done)|skip
   rename_i n;obtain⟨f,a⟩:=cH.1 (show aQ (bM (Nat.succ n) 256) (ao (bytesOf b) fun r=>some (gJ n::r))=some j from a);obtain⟨r,g,a⟩:=av.1 a;cases a;rw[eZ]at f;rw[i e g];simp;omega
variable{R:List V→af→Option V}
theorem QZ(hT:cR P T)(K:Rel φ H w)(o:Oper)(g:cop N T o.op=.rd t R)(J:jE φ F ρ o.op.operands.toList){v:V}(h:R (vals t F) H=some v):
 ∃U,(execOp ρ o).run P w=.ok (.value U) w∧aJ φ v U:=by
 obtain⟨a2,bj,ty,bo,after,guard⟩:=o;simp only at g J;cases bj<;>simp only[cop,reduceCtorEq]at g<;>simp only[Op.operands]at J
 case load a1 a=>
  obtain⟨f,I,g⟩:=av.1 (dz g aB);obtain⟨R,hg,g⟩:=av.1 g;obtain⟨n,hn,g⟩:=av.1 g;cases g;obtain⟨b1,p,U,A,h3⟩:=Pw hT K hg hn (pH J I) (show iq R n [f F] H=some v from h);exact⟨U,by simp[execOp,Instr.loadAt,p,wE,A],h3⟩
 case convert s d x=>
  obtain⟨f,I,g⟩:=av.1 (dz g aB);have B:qm T s d [f]=.rd t R:=Option.some.inj g;unfold qm at B;split at B<;>first|(cases B;done)|skip
  ·split at B<;>cases B
  ·rename_i e L r;split at B
   ·rename_i D;cases B;have p:=pH J I;have k:tg [f F] H=some v:=h;generalize f F=u at p k
    generalize hq:ρ x=x' at p
    have O:∀ {a:Option Addr}{len Q:Nat}{y:Value},(convert s d (.slice a len Q)).run P w=.ok y w→x'=.slice a len Q→(execOp ρ ⟨a2,.convert s d x,ty,bo,after,guard⟩).run P w=.ok (.value y) w:=by
     intro a len Q y h D;simp only[execOp,hq,D];rw[cU,h];rfl
    cases p<;>first|(cases k;done)|skip
    ·rename_i b o len Q M l hb a6 aw;obtain⟨X,a4,k⟩:=av.1 (show ao (H.cS b o len) _=some v from k);obtain⟨st,am,k⟩:=av.1 k;cases k;obtain⟨bv,Y,Z,ab⟩:=xO K hb a4;have ac:=J8 Z am;subst ac;have ad:st.length=len:=by simpa using Y
     subst ad;refine⟨_,O ?_ rfl,.str st⟩;exact run_convert_bytes_back w s d e ⟨l.c,l.base+o,none⟩ M st (hT.bq L) (hT.bq D) (hT.bq r) (fun j hj=>by
      rw[mu];exact ab j _ (by simp[hj]))
    ·cases k;refine⟨_,O ?_ rfl,.str []⟩;simp[convert,run_underlying (hT.bq L),run_underlying (hT.bq r),run_underlying (hT.bq D),Conv.bytesToString];rfl
    ·cases k;rename_i a M;refine⟨_,O (y:=.string ⟨⟨[]⟩⟩) ?_ rfl,.str []⟩;simp[convert,run_underlying (hT.bq L),run_underlying (hT.bq r),run_underlying (hT.bq D),Conv.bytesToString,loadCells,loadCellsFrom];rfl
    ·rename_i a M aw;cases k;refine⟨_,O (y:=.string ⟨⟨[]⟩⟩) ?_ rfl,.str []⟩;cases a with
     |none=>
      rw[aw rfl];simp[convert,run_underlying (hT.bq L),run_underlying (hT.bq r),run_underlying (hT.bq D),Conv.bytesToString];rfl
     |some a=>
      simp[convert,run_underlying (hT.bq L),run_underlying (hT.bq r),run_underlying (hT.bq D),Conv.bytesToString,loadCells,loadCellsFrom];rfl
    ·rename_i n W o M X vs y hi g E a6;obtain⟨q,ba,k⟩:=av.1 (show ao (cq X n) _=some v from k);obtain⟨st,am,k⟩:=av.1 k;cases k;have a':cq (eC X 0) n=some q:=by rw[kG];exact ba
     obtain⟨bv,Y,Z,ab⟩:=HE K hi g E a';have ac:=J8 Z am;subst ac;have ad:st.length=n:=by simpa using Y
     subst ad;refine⟨_,O ?_ rfl,.str st⟩;exact run_convert_bytes_back w s d e ⟨W,o,none⟩ M st (hT.bq L) (hT.bq D) (hT.bq r) (fun j hj=>by
      rw[mu];exact ab j _ (by simp[hj]))
   ·cases B
 case call W=>
  obtain⟨callee,a0,ts⟩:=W;have G:=dz g aB;clear g;cases callee with
  |value x=>cases x<;>simp only[]at G<;>exact dead G
  |invoke x m=>cases G
  |builtin bi=>
   obtain⟨fs,ae,G⟩:=av.1 G;have C:=dz (Option.some.inj G) aB;clear G;obtain⟨a1,ht,C⟩:=av.1 C;obtain⟨d,r,C⟩:=av.1 C;cases bi<;>simp only[reduceCtorEq]at C
   case len=>
    cases d<;>simp only[reduceCtorEq,Option.some.injEq,bP.rd.injEq]at C;obtain⟨rfl,rfl⟩:=C;have a8:jE φ F ρ a0.toList:=fun y hy=>J y (by simp[Call.operands];simpa using hy)
    have E:=oH ae a8;generalize vals fs F=l at E h
    obtain⟨S⟩:=a0;cases S with
    |nil=>cases E;cases h
    |cons x S=>
     cases S with
     |nil=>
      cases E with
      |cons p A=>
       cases A;exact al_ hT K r (lk ht) p h
     |cons y S=>
      cases E with
      |cons p A=>cases A with
       |cons A h3=>exact absurd h (by unfold ug;split<;>simp_all)
   all_goals exact dead C
 case lookup a1 x i b'=>
  obtain⟨fs,ae,g⟩:=av.1 (dz g aB);obtain⟨d,r,g⟩:=av.1 g;cases d<;>simp only[reduceCtorEq]at g;obtain⟨f,I,g⟩:=av.1 g;obtain⟨b2,hi,g⟩:=av.1 g;obtain⟨z,hz,g⟩:=av.1 g;obtain⟨cd,be,g⟩:=av.1 g;cases g;obtain⟨a,b,E,p,A⟩:=yz J ae;rw[E]at h;exact amA hT K r I hi hz be p A h
 case entry x=>
  obtain⟨f,I,g⟩:=av.1 (dz g aB);cases g;exact ago K (pH J I) h
 case makeFunc f _ _=>
  cases f<;>simp only[reduceCtorEq]at g;exact dead g
 all_goals exact dead g
end
section
variable {P:Program}{φ:aG}{H:af}{w:World}
theorem Qg{v:V}(h:aJ φ v x)(a:v.one=true):x.oneCell'=true:=by
 cases h<;>first|rfl|assumption|cases a
theorem Jb(h:bm φ b D)(e:cG b=true):∀v∈D,v.oneCell'=true:=by
 induction b generalizing D with
 |nil=>cases h;simp
 |cons v b f=>
  cases h with
  |cons c d=>
   have a:and v.one (cG b)=true:=e;rw[cu]at a;intro x hx;rcases g7.1 hx with rfl|hx
   ·exact Qg c a.1
   ·exact f d a.2 x hx
theorem aqA(d:H.e5 a h b=some c):
 ∃f g,H.get a=.cells f g∧cG b=true∧h+b.length≤f.length∧c.next=H.next∧
  (g=0∨∃o,H.get g=.bB a o)∧
  ∀x,c.get x=if a=x then .cells (f.take h++b++f.drop (h+b.length)) g else if g=x∧g≠0 then .bB a a else H.get x:=by
 unfold af.e5 at d;cases k:H.get a with
 |cells f g=>
  rw[k]at d;obtain⟨q,d⟩:=cH.1 d;obtain⟨t,j,d⟩:=av.1 d;rw[lC]at j;split at j
  ·rename_i s;cases j;cases g with
   |zero=>
    cases d;refine⟨f,0,rfl,q,s,rfl,.inl rfl,fun x=>?_⟩;rw[af.aK];simp
   |succ g=>
    have i:cP.casesOn (motive:=fun _=>Option af) (H.get (g+1)) aM (fun _ _=>aM)
     (fun m _=>aQ (bn m a) (some ((H.set a (.cells (f.take h++b++f.drop (h+b.length)) (g+1))).set (g+1) (.bB a a)))) (fun _=>aM)=some c:=d
    cases l:H.get (g+1)with
    |bB m o=>
     rw[l]at i;obtain⟨r,i⟩:=cH.1 i;rw[beq_eq]at r;subst r;cases i;refine⟨f,g+1,rfl,q,s,rfl,.inr ⟨o,l⟩,fun x=>?_⟩;rw[af.aK,af.aK];by_cases n:g+1=x
     ·subst n;have:m≠g+1:=by intro e;rw[e,l]at k;cases k
      simp[this]
     ·by_cases p:m=x
      ·simp[p];intro e;exact absurd e n
      ·simp[n,p]
    |_=>rw[l]at i;cases i
  ·cases j
 |_=>rw[k]at d;cases d
theorem aqq(b a:List f)(o i:Nat)(h:o+a.length≤b.length):
 (b.take o++a++b.drop (o+a.length))[i]? =if o≤i∧i<o+a.length then a[i-o]? else b[i]? :=by
 by_cases c:i<o
 ·rw[eJ,lJ (by simp;omega),wH c,aj aa]
 ·by_cases d:i<o+a.length
  ·rw[eJ,q4 (by simp;omega),lJ (by simp;omega),ak aa];congr 1;simp;omega
  ·rw[q4 (by simp;omega),aj aa,q5];congr 1;simp;omega
theorem Ae(b:Nat):∀(a:List Value) (o:Nat) (w:World),(w.setCells b o a).heap.size=w.heap.size
 |[],_,_=>rfl
 |v::r,o,w=>by
  show((w.setCell ⟨b,o,none⟩ v).setCells b (o+1) r).heap.size=_;rw[Ae b r];simp[World.setCell]
theorem tU(b c:Nat)(h:b≠c):∀(a:List Value) (o:Nat) (w:World),(w.setCells b o a).heap[c]? =w.heap[c]?
 |[],_,_=>rfl
 |v::r,o,w=>by
  show((w.setCell ⟨b,o,none⟩ v).setCells b (o+1) r).heap[c]? =_;rw[tU b c h r];simp[World.setCell,Array.getElem?_modify,h]
theorem apO(w:World)(b o:Nat)(v:Value):hN w (w.setCell ⟨b,o,none⟩ v):=⟨rfl,rfl,rfl,fun{c i} h=>by
 obtain⟨⟨u,a⟩,j⟩:=h;refine⟨?_,by rw[World.frozen?_setCell];exact j⟩;by_cases e:(⟨b,o,none⟩:Addr)=⟨c,i,none⟩
 ·rw[←e]at a⊢;exact⟨v,World.cell?_setCell_same _ _ _ a⟩
 ·exact⟨u,by
   have:=World.cell?_setCells_out b [v] o w ⟨c,i,none⟩ (fun f g=>by
    simp only[]at f g⊢;refine oa fun hh=>e ?_
    have:i=o:=by simp at hh;omega
    rw[this,f])
   exact this.trans a⟩,fun c d t k h=>by
 by_cases e:b=c
 ·subst e;exact⟨d.setIfInBounds o v,by simp[World.setCell,Array.getElem?_modify,h],aB⟩
 ·exact⟨d,by simpa [World.setCell,Array.getElem?_modify,e]using h,rfl⟩⟩
theorem HN(b:Nat):∀(a:List Value) (o:Nat) (w:World),hN w (w.setCells b o a)
 |[],_,w=>hN.refl w
 |v::r,o,w=>hN.trans (b:=w.setCell ⟨b,o,none⟩ v) (apO w b o v) (HN b r (o+1) (w.setCell ⟨b,o,none⟩ v))
variable{u:Nat}
theorem CU(p:Rel φ H w)(z:φ h=some Q)(hv:bm φ b D)(a9:H.e5 h u b=some c):
 (storeCells ⟨Q.c,Q.base+u,none⟩ D).run P w=.ok () (w.setCells Q.c (Q.base+u) D)∧Ext φ H w φ c (w.setCells Q.c (Q.base+u) D):=by
 obtain⟨cs,g,s,h1,h2,h3,f,r⟩:=aqA a9;have cf:=hv.length;have ch:=p.len z s;have ar:∀j,j<D.length→(w.cell? ⟨Q.c,Q.base+u+j,none⟩).isSome=true:=fun j J=>by
  obtain⟨⟨aw,I⟩,_⟩:=p.room z (i:=u+j) aa;rw[←jl]at I;rw[I];rfl
 have bo:∀j,j<D.length→w.frozen? ⟨Q.c,Q.base+u+j,none⟩=false:=fun j J=>by
  obtain⟨_,I⟩:=p.room z (i:=u+j) aa;rw[←jl]at I;exact I
 have ap:=run_storeCells_cells (P:=P) Q.c (Q.base+u) D 0 w (by simpa using ar) (by simpa using bo) (Jb hv h1);rw[cE]at ap;have al:=World.cell?_setCells_in Q.c D (Q.base+u) w ar;have bi:∀ {l:Nat}{o:Loc}{F:List V}{y:Nat},φ l=some o→c.get l=.cells F y→c.fR l y=true→l≠h→o.c≠Q.c∧H.get l=.cells F y∧H.fR l y=true:=by
  intro l o F y k d m t;rw[r,aj (fun e=>t e.symm)]at d;have B:H.get l=.cells F y:=by
   split at d
   ·cases d
   ·exact d
  have key:g≠0→y≠g:=by
   intro W K;subst K;rcases f with f|⟨G,f⟩
   ·exact W f
   ·have ce:=p.mem B W f;rcases gq.1 m with e|⟨Y,R,q,C⟩
    ·exact W e
    ·rw[r]at q;have be:h≠y:=by intro e;rw[e,f]at s;cases s
     rw[aj be,ak ⟨rfl,W⟩]at q;cases q;omega
  refine⟨fun A=>?_,B,?_⟩
  ·obtain⟨E,a2,S,K,T,U⟩:=(p.inj k z A t).resolve_right (fun n=>by rw[s]at n;cases n.2);rw[B]at T;rw[s]at U;cases T;cases U;exact key K rfl
  ·rcases gq.1 m with e|⟨Y,R,q,C⟩
   ·exact gq.2 (.inl e)
   ·rw[r]at q;split at q
    ·cases q
    ·split at q
     ·rename_i hh;exact absurd hh.1.symm (key hh.2)
     ·exact gq.2 (.inr ⟨Y,R,q,C⟩)
 have b1:∀ {l:Nat}{o:Loc}{Z:oh},φ l=some o→c.get l=.ck Z→o.base=0∧ur φ (w.setCells Q.c (Q.base+u) D) o.c Z:=by
  intro l o Z k d;have m:h≠l:=by intro e;rw[r,ak e]at d;cases d
  have t:H.get l=.ck Z:=by
   rw[r,aj m]at d;split at d
   ·cases d
   ·exact d
  obtain⟨f1,f2⟩:=p.ck k t;refine⟨f1,f2.mono (aG.le_refl φ) (tU _ _ ?_ _ _ _)⟩;intro A;obtain⟨_,_,_,_,E,_⟩:=(p.inj k z A.symm (fun e=>m e.symm)).resolve_right (fun n=>by rw[s]at n;cases n.2);rw[t]at E;cases E
 have X:∀ {l:Nat}{o:Loc},φ l=some o→H.get l=.none→c.get l=.none∧(w.setCells Q.c (Q.base+u) D).heap[o.c]? =w.heap[o.c]? :=by
  intro l o k d;have m:h≠l:=by intro e;rw[←e,s]at d;cases d
  refine⟨?_,tU _ _ ?_ _ _ _⟩
  ·rw[r,aj m];split
   ·rename_i hh;rcases f with f|⟨G,f⟩
    ·exact absurd f hh.2
    ·rw[hh.1,d]at f;cases f
   ·exact d
  ·intro A;obtain⟨_,_,_,_,E,_⟩:=(p.inj k z A.symm (fun e=>m e.symm)).resolve_right (fun n=>by rw[s]at n;cases n.2);rw[d]at E;cases E
 refine⟨ap,⟨⟨?_,?_,?_,?_,?_,?_,?_,?_,b1,fun e=>(p.fC e).keep (tU _ _ (fun A=>(p.fC e).tT z (by rw[s];simp) A) _ _ _) (fun l o k d=>(X k ((p.fC e).off l o k d)).1),fun{x cb cd} e=>by
  rw[h3];rw[r]at e;split at e
  ·cases e;exact p.mG s
  ·split at e
   ·cases e
   ·exact p.mG e⟩,aG.le_refl φ,fun k d=>absurd (k.symm.trans d) aB,?_,Nat.le_of_eq h3.symm,?_,by rw[Ae];exact aE _,HN _ _ _ _,X,fun _ _ e=>.inl e⟩⟩
 ·intro l o F y i v k d m t;by_cases ae:l=h
  ·subst ae;rw[z]at k;cases k;rw[r,ak rfl]at d;cases d;rw[aqq _ _ _ _ h2]at t;split at t
   ·rename_i hi;obtain⟨M,B,q⟩:=hv.get _ _ t;refine⟨M,?_,q⟩;have J:i-u<D.length:=aa;have:=al (i-u) J;have C:Q.base+u+(i-u)=Q.base+i:=aa;rw[C]at this;rw[this];rw[←B];simp[J]
   ·rename_i hi;have bs:H.fR l g=true:=by
     rcases f with f|⟨G,f⟩
     ·exact gq.2 (.inl f)
     ·exact gq.2 (.inr ⟨_,G,f,p.mF f⟩)
    obtain⟨M,B,q⟩:=p.cell z s bs t;refine⟨M,?_,q⟩;rw[World.cell?_setCells_out _ _ _ _ _ (fun _ _=>by simp;omega)];exact B
  ·obtain⟨B,q,C⟩:=bi k d m ae;obtain⟨M,a5,a6⟩:=p.cell k q C t;refine⟨M,?_,a6⟩;rw[World.cell?_setCells_out _ _ _ _ _ (fun e _=>absurd e B)];exact a5
 ·intro l o i k d;obtain⟨⟨aw,I⟩,hf⟩:=p.room k d;refine⟨?_,by rw[World.frozen?_setCells];exact hf⟩;by_cases A:o.c=Q.c∧Q.base+u≤o.base+i∧o.base+i<Q.base+u+D.length
  ·have J:o.base+i-(Q.base+u)<D.length:=aa;have:=al _ J;have C:Q.base+u+(o.base+i-(Q.base+u))=o.base+i:=aa;rw[C]at this;rw[A.1];exact⟨_,this⟩
  ·refine⟨aw,?_⟩;rw[World.cell?_setCells_out _ _ _ _ _ (fun e _=>by simp at e⊢;omega)];exact I
 ·intro l o F y k d;rw[r]at d;split at d
  ·rename_i e;subst e;cases d;rw[z]at k;cases k;simp;omega
  ·split at d
   ·cases d
   ·exact p.len k d
 ·intro l b2 o l2 k d m t;rcases p.inj k d m t with⟨E,a2,S,K,T,U⟩|⟨n1,n2⟩
  rotate_left
  ·exact .inr ⟨(X k n1).1,(X d n2).1⟩
  have ad:∀ {x:Nat}{a:List V},H.get x=.cells a S→∃a',c.get x=.cells a' S:=by
   intro x a L;rw[r];split
   ·rename_i e;subst e;rw[s]at L;cases L;exact⟨_,rfl⟩
   ·split
    ·rename_i hh;rcases f with f|⟨G,f⟩
     ·exact absurd f hh.2
     ·rw[hh.1,L]at f;cases f
    ·exact⟨a,L⟩
  obtain⟨a1,bc⟩:=ad T;obtain⟨a3,bd⟩:=ad U;exact .inl ⟨a1,a3,S,K,bc,bd⟩
 ·intro l k;rw[h3]at k;obtain⟨d,m⟩:=p.top k;refine⟨d,?_⟩;rw[r];split
  ·rename_i e;subst e;rw[s]at m;cases m
  ·split
   ·rename_i hh;rcases f with f|⟨G,f⟩
    ·exact absurd f hh.2
    ·rw[hh.1,m]at f;cases f
   ·exact m
 ·intro l o k;rw[Ae];exact p.loc k
 ·intro l F y Y G k d m;have O:∃N,H.get l=.cells N y:=by
   rw[r]at k;split at k
   ·rename_i e;subst e;cases k;exact⟨cs,s⟩
   ·split at k
    ·cases k
    ·exact⟨_,k⟩
  obtain⟨N,O⟩:=O;rw[r]at m;split at m
  ·cases m
  ·split at m
   ·rename_i hh;cases m;rcases f with f|⟨R,f⟩
    ·exact absurd f hh.2
    ·rw[hh.1]at f;exact p.mem O d f
   ·exact p.mem O d m
 ·intro y Y G m;rw[r]at m;split at m
  ·cases m
  ·split at m
   ·cases m;exact aE _
   ·exact p.mF m
 ·intro x L hn bv;rw[r];split
  ·rename_i e;subst e;rw[z]at hn;cases hn
  ·split
   ·rename_i hh;rcases f with f|⟨R,f⟩
    ·exact absurd f hh.2
    ·rw[hh.1]at f;exact absurd f (bv _ _)
   ·rfl
 ·intro N A b0;exact tU Q.c N (b0 h Q z) D _ w
end
def aG.add(φ:aG)(b:Nat)(l:Loc):aG:=⟨fun x=>if x=b then some l else φ x,φ.im⟩
theorem aG.add_get:o.add a Q h=if h=a then some Q else o h:=rfl
theorem aG.tO(φ:aG)(b:Nat)(l:Loc):φ.add b l b=some l:=by rw[aG.add_get,ak rfl]
theorem aG.vF{l:Loc}(h:o a=none):o.le (o.add a l):=by
 refine⟨?_,fun _ _ h=>h⟩;intro x m b;rw[aG.add_get];split
 ·rename_i e;subst e;rw[h]at b;cases b
 ·exact b
section
variable {P:Program}{φ:aG}{H:af}{w w':World}
theorem Ra(k:Rel φ H w):Rel φ (H.push (.cells b 0)) w:=by
 have m:∀ {d l},φ d=some l→H.next≠d:=fun{d l} h e=>by
  have:=(k.top (b:=d) aa).1;rw[h]at this;cases this
 have q:∀ {x a d},(H.push (.cells b 0)).get x=.bB a d→H.get x=.bB a d:=by
  intro x a d h;rw[af.bf]at h;split at h
  ·cases h
  ·exact h
 have hl:∀ {d g},d≠H.next→(H.push (.cells b 0)).fR d g=true→H.fR d g=true:=by
  intro d g s h;rcases gq.1 h with e|⟨a,c,e,t⟩
  ·exact gq.2 (.inl e)
  ·exact gq.2 (.inr ⟨a,c,q e,t⟩)
 refine⟨?_,k.room,?_,?_,?_,k.loc,?_,fun e=>k.mF (q e),fun{d l o} f j=>k.ck f (by rw[af.bf,aj (m f)]at j;exact j),fun e=>(k.fC e).keep rfl (fun d l f j=>by rw[af.bf,aj (m f)];exact(k.fC e).off d l f j),fun{x B u} e=>by
  show u<H.next+1
  rw[af.bf]at e;split at e
  ·cases e;omega
  ·have:=k.mG e;omega⟩
 ·intro d l r g i v f j n p;rw[af.bf,aj (m f)]at j;exact k.cell f j (hl (fun e=>m f e.symm) n) p
 ·intro d l r g f j;rw[af.bf,aj (m f)]at j;exact k.len f j
 ·intro d A l E f j n p;rw[af.bf,aj (m f),af.bf,aj (m j)];exact k.inj f j n p
 ·intro d s;have D:H.next+1≤d:=s
  obtain⟨y,z⟩:=k.top (b:=d) aa;refine⟨y,?_⟩;rw[af.bf,aj aa];exact z
 ·intro d r g F C f j n;rw[af.bf]at f;split at f
  ·cases f;exact absurd rfl j
  ·exact k.mem f j (q n)
theorem Q_(j:Rel φ H w)(C:H.get a=.cells b 0)(N:φ a=none)(F:a<H.next)(m:tL φ (.cells b 0) h w w'):
 Rel (φ.add a ⟨w.heap.size,0,h⟩) H w':=by
 obtain⟨P,J,M,I,O⟩:=m.obj;cases J;have D:=aG.vF (l:=⟨w.heap.size,0,h⟩) N;have k:∀ {x:Nat}{l:Loc},φ.add a ⟨w.heap.size,0,h⟩ x=some l→(x=a∧l=⟨w.heap.size,0,h⟩)∨(x≠a∧φ x=some l):=by
  intro x l p;rw[aG.add_get]at p;split at p
  ·cases p;exact .inl ⟨by assumption,rfl⟩
  ·exact .inr ⟨by assumption,p⟩
 have n:∀ {c i:Nat},c<w.heap.size→w'.cell? ⟨c,i,none⟩=w.cell? ⟨c,i,none⟩:=by
  intro c i n;unfold World.cell?;rw[m.old c n]
 have K:∀ {c i:Nat},c<w.heap.size→w'.frozen? ⟨c,i,none⟩=w.frozen? ⟨c,i,none⟩:=by
  intro c i n;unfold World.frozen?;rw[m.old c n]
 have L:∀ {c:Nat}{x:Obj},φ.im c=some x→p0 (φ.add a ⟨w.heap.size,0,h⟩) H w' c x:=by
  intro c x e;have hi:=j.fC e;have F:=hi.lt;refine hi.keep (m.old c F) ?_;intro y l d f;rcases k d with⟨_,rfl⟩|⟨_,d⟩
  ·have:w.heap.size=c:=f;omega
  ·exact hi.off _ _ d f
 refine⟨?_,?_,?_,?_,?_,?_,j.mem,j.mF,?_,L,j.mG⟩
 rotate_right
 ·intro x l o d f;rcases k d with⟨rfl,rfl⟩|⟨_,d⟩
  ·rw[C]at f;cases f
  ·obtain⟨t,s⟩:=j.ck d f;exact⟨t,s.mono D (m.old _ (j.loc d))⟩
 ·intro x l G g i v d f q r;rcases k d with⟨rfl,rfl⟩|⟨_,d⟩
  ·rw[C]at f;cases f;obtain⟨E,u,z⟩:=I i v r;exact⟨E,by simpa using u,z.mono D⟩
  ·obtain⟨E,u,z⟩:=j.cell d f q r;exact⟨E,by rw[n (j.loc d)];exact u,z.mono D⟩
 ·intro x l i d f;rcases k d with⟨rfl,rfl⟩|⟨_,d⟩
  ·simpa using O i f
  ·obtain⟨A,B⟩:=j.room d f;rw[n (j.loc d),K (j.loc d)];exact⟨A,B⟩
 ·intro x l G g d f;rcases k d with⟨rfl,rfl⟩|⟨_,d⟩
  ·rw[C]at f;cases f;exact M
  ·exact j.len d f
 ·intro x y l Q d f q r;rcases k d with⟨rfl,rfl⟩|⟨_,t⟩
  ·rcases k f with⟨rfl,rfl⟩|⟨_,s⟩
   ·exact absurd rfl r
   ·have:=j.loc s;simp at q;omega
  ·have hl:=j.loc t;rcases k f with⟨rfl,rfl⟩|⟨_,s⟩
   ·simp at q;omega
   ·exact j.inj t s q r
 ·intro x p;obtain⟨A,B⟩:=j.top p;refine⟨?_,B⟩;rw[aG.add_get];rw[aj aa];exact A
 ·intro x l d;rw[m.size];rcases k d with⟨rfl,rfl⟩|⟨_,d⟩
  ·simp
  ·have:=j.loc d;omega
theorem agL(i:Rel φ H w)(h:tL φ (.cells b 0) a w w'):
 Ext φ H w (φ.add H.next ⟨w.heap.size,0,a⟩) (H.push (.cells b 0)) w':=by
 have g:φ H.next=none:=(i.top (aE _)).1
 refine⟨Q_ (Ra i) (by rw[af.bf,ak rfl]) g (by show H.next<H.next+1;omega) h,aG.vF g,?_,?_,by show H.next≤H.next+1;omega,?_,by rw[h.size];omega,h.same,fun{j l} f d=>⟨by rw[af.bf,aj (fun e=>by rw[←e,g]at f;cases f)];exact d,h.old _ (i.loc f)⟩,fun _ _ e=>.inl e⟩
 ·intro j l f d;rw[aG.add_get]at d;split at d
  ·rename_i e;subst e;cases d;exact⟨aE _,.inl (aE _)⟩
  ·rw[f]at d;cases d
 ·intro j m _ _;rw[af.bf,aj aa]
 ·intro c k _;exact h.old c k
end
section
variable {P:Program}{φ:aG}{H:af}{w:World}
def Fits(P:Program)(w:World)(b n:Nat)(x:Value)(a:List Value):Prop:=
 (Builtin.lenOf x).run P w=.ok n w∧∀k,(Builtin.firstCells b n x).run P { w with drawn:=w.drawn+k }=.ok ⟨a⟩ { w with drawn:=w.drawn+k }
variable{u:Nat}{L:Nat}
theorem tP{st:TypeId}(t:P.underlying st=some (.slice g)){i:TypeInfo}(hi:P.info? g=some i){d y:TypeId}(v:P.underlying d=some E)(z:∀k,E≠ .int k)
 {b:Array TypeId} (j:b[0]? =some st) (l:b[1]? =some d) {a:Addr} (m:Fits P w i.size L x D) (p:h+L≤u)
 (q:(storeCells (a.add (h*i.size)) D).run P w=.ok () r):
 (Builtin.append_ b y #[.slice (some a) h u,x]).run P w=.ok (.slice (some a) (h+L) u) r:=by
 obtain⟨n,o⟩:=m;have c:=o 0;simp only[cE]at c;unfold Builtin.append_;have e:(#[Value.slice (some a) h u,x]:Array Value)[0]? =some (.slice (some a) h u):=rfl;have f:(#[Value.slice (some a) h u,x]:Array Value)[1]? =some x:=rfl;have s:(sizeOf g).run P w=.ok i.size w:=by simp[sizeOf,qM hi]
 simp only[j,l,e,f,cU,run_underlying t,dV,s,run_underlying v,fO,ie,if_false,n,ak p,iY,if_true,c,q]
theorem DQ{st:TypeId}(G:P.underlying st=some (.slice g)){i:TypeInfo}(hi:P.info? g=some i)(I:i.zero=some x)(J:x.cells.size=i.size){j ty:TypeId}(H:P.underlying j=some E)(Q:∀k,E≠ .int k)
 {e:Array TypeId} (n:e[0]? =some st) (d:e[1]? =some j) {a:Option Addr}{len cap:Nat}{b:Value}{old:List Value} (s:Fits P w i.size h b D) (y:cap<len+h)
 (B:∀k,(Builtin.firstCells i.size len (.slice a len cap)).run P { w with drawn:=w.drawn+k }=.ok ⟨old⟩ { w with drawn:=w.drawn+k })
 (N:len+h≤1099511627776) (O:(len+h)*i.bytes≤1099511627776):
 ∃c,len+h≤c∧∃f:List Value,f.length=(c-(len+h))*i.size∧
  (Builtin.append_ e ty #[.slice a len cap,b]).run P w=.ok (.slice (some ⟨w.heap.size,0,none⟩) (len+h) c) (w.drew.alloc (.cells ⟨old++D++f⟩ g)):=by
 obtain⟨t,u⟩:=s;have v:=u 1;have C:=B 1;have F:∀w,(sizeOf g).run P w=.ok i.size w:=by intro w;simp[sizeOf,qM hi]
 have l:(#[Value.slice a len cap,b]:Array Value)[0]? =some (.slice a len cap):=rfl;have m:(#[Value.slice a len cap,b]:Array Value)[1]? =some b:=rfl;have A:¬(len+h≤cap):=aa;have z:¬(((len+h:Nat):Int)>IntKind.i64.max):=by
  have:IntKind.i64.max=9223372036854775807:=ag;rw[this];omega
 have q:¬(Builtin.nextslicecap (len+h) cap*i.bytes>2^48):=by
  have d:=nextslicecap_le y;have K:Builtin.nextslicecap (len+h) cap*i.bytes≤(2*(len+h)+200)*i.bytes:=dn _ d;have L:(2*(len+h)+200)*i.bytes=2*((len+h)*i.bytes)+200*i.bytes:=by rw[cF,bT]
  have M:i.bytes≤(len+h)*i.bytes:=Nat.le_mul_of_pos_left _ aa;omega
 let c:=Question.cut (.appendCap (len+h) cap g) (w.tape w.drawn (.appendCap (len+h) cap g));have p:len+h≤c:=sq _ _;have r:(choose (.appendCap (len+h) cap g)).run P w=.ok c { w with drawn:=w.drawn+1 }:=by simp[Question.forced,c]
 refine⟨c,p,(Builtin.zeroCells x.cells (c-(len+h))).toList,by simp[Builtin.zeroCells,J],?_⟩;unfold Builtin.append_;simp only[n,d,l,m,cU,run_underlying G,dV,F,run_underlying H,fO,ie,if_false,t,aj A,iY,if_true];simp only[z,false_and,if_false,cU,fO,dV,qM hi,aj q,r,run_askRoom,C,v,s8 hi I,newRow,run_newObj];have o:(({ toList:=old }++ { toList:=D }++Builtin.zeroCells x.cells (c-(len+h)):Array Value))= { toList:=old++D++(Builtin.zeroCells x.cells (c-(len+h))).toList }:=by
  apply tw;simp
 rw[o];rfl
end
section
variable {P:Program}{φ:aG}{H H':af}{w w':World}
structure wD (H H':af) (g:Nat) (cs:List V):Prop where
 get:∀x,H'.get x=if x=H.next then .cells cs g else if x=g then .bB H.next H.next else H.get x
 lo:H.next<H'.next
 hi:g<H'.next
 g0:g≠0
 vu:g≠H.next
 old:H.next≤g∨∃leaf tY,H.get g=.bB leaf tY
theorem NO(t:Rel φ H w)(g:wD H H' h b){l:Loc}
 (a2:∀ {x:Nat}{d:Loc}{n:List V}{q i:Nat},φ x=some d→H.get x=.cells n q→q≠h→w'.cell? ⟨d.c,d.base+i,none⟩=w.cell? ⟨d.c,d.base+i,none⟩)
 (bc:∀ {x:Nat}{d:Loc}{i:Nat},φ x=some d→i<d.jM→(∃B,w'.cell? ⟨d.c,d.base+i,none⟩=some B)∧w'.frozen? ⟨d.c,d.base+i,none⟩=false)
 (a7:∀ {i:Nat}{v:V},b[i]? =some v→∃B,w'.cell? ⟨l.c,l.base+i,none⟩=some B∧aJ φ v B)
 (a9:∀ {i:Nat},i<l.jM→(∃B,w'.cell? ⟨l.c,l.base+i,none⟩=some B)∧w'.frozen? ⟨l.c,l.base+i,none⟩=false)
 (a3:b.length≤l.jM) (R:∀ {x:Nat}{d:Loc},φ x=some d→d.c=l.c→∃n,H.get x=.cells n h)
 (a4:l.c<w'.heap.size) (ae:w.heap.size≤w'.heap.size) (ac:∀ {u:Nat},u<w.heap.size→(∀r l,φ r=some l→l.c≠u)→w'.heap[u]? =w.heap[u]?) (hs:hN w w')
 (Z:w.heap.size≤l.c∨∃S I,φ S=some I∧I.c=l.c)
 (ba:∀ {x:Nat}{d:Loc}{o:oh},φ x=some d→H.get x=.ck o→w'.heap[d.c]? =w.heap[d.c]?)
 (ad:∀ {x:Nat}{d:Loc},φ x=some d→H.get x=.none→w'.heap[d.c]? =w.heap[d.c]?):Ext φ H w (φ.add H.next l) H' w':=by
 have hn:φ H.next=none:=(t.top (aE _)).1
 have N:=aG.vF (l:=l) hn;have X:∀ {x:Nat}{d:Loc},φ x=some d→x<H.next:=by
  intro x d s;rcases mj x H.next with h1|h1
  ·exact h1
  ·rw[(t.top h1).1]at s;cases s
 have Y:∀ {x:Nat},H.get x≠ .none→x<H.next:=by
  intro x s;rcases mj x H.next with h1|h1
  ·exact h1
  ·exact absurd (t.top h1).2 s
 have A:∀ {x:Nat}{d:Loc},φ.add H.next l x=some d→(x=H.next∧d=l)∨(x≠H.next∧φ x=some d):=by
  intro x l z;rw[aG.add_get]at z;split at z
  ·cases z;exact .inl ⟨by assumption,rfl⟩
  ·exact .inr ⟨by assumption,z⟩
 have K:∀ {x:Nat}{n:List V}{q:Nat},x≠H.next→H'.get x=.cells n q→H.get x=.cells n q:=by
  intro x n q h1 m;rw[g.get,aj h1]at m;split at m
  ·cases m
  ·exact m
 have Q:∀ {x a r:Nat},x≠h→H'.get x=.bB a r→H.get x=.bB a r:=by
  intro x a r h1 m;rw[g.get]at m;by_cases C:x=H.next
  ·rw[ak C]at m;cases m
  ·rw[aj C,aj h1]at m;exact m
 have L:∀ {x:Nat}{n:List V}{q:Nat},H.get x=.cells n q→H'.get x=.cells n q:=by
  intro x n q h1;rw[g.get,aj (by have:=Y (x:=x) (by rw[h1];simp);omega),aj ?_]
  ·exact h1
  ·intro e;subst e;rcases g.old with s|⟨a,r,s⟩
   ·rw[(t.top s).2]at h1;cases h1
   ·rw[s]at h1;cases h1
 have bb:∀ {x:Nat}{d:Loc}{o:oh},φ.add H.next l x=some d→H'.get x=.ck o→d.base=0∧ur (φ.add H.next l) w' d.c o:=by
  intro x d o j f;rcases A j with⟨h1,_⟩|⟨h1,k⟩
  ·rw[g.get,ak h1]at f;cases f
  ·have p:H.get x=.ck o:=by
    rw[g.get,aj h1]at f;split at f
    ·cases f
    ·exact f
   obtain⟨F,f3⟩:=t.ck k p;exact⟨F,f3.mono N (ba k p)⟩
 have M:∀ {x:Nat}{d:Loc},φ x=some d→H.get x=.none→H'.get x=.none∧w'.heap[d.c]? =w.heap[d.c]? :=by
  intro x d j f;refine⟨?_,ad j f⟩;have z:=X j;rw[g.get,aj aa];split
  ·rename_i e;subst e;rcases g.old with s|⟨a,r,s⟩
   ·omega
   ·rw[s]at f;cases f
  ·exact f
 have a1:∀ {u:Nat}{x:Obj},φ.im u=some x→p0 (φ.add H.next l) H' w' u x:=by
  intro u x e;have hi:=t.fC e;have a5:=hi.lt;have be:w'.heap[u]? =w.heap[u]? :=by
   by_cases W:∃r l,φ r=some l∧l.c=u
   ·obtain⟨r,I,j,f⟩:=W;rw[←f];exact ad j (hi.off _ _ j f)
   ·exact ac a5 (fun r I j f=>W ⟨r,I,j,f⟩)
  refine hi.keep be ?_;intro y d j f;rcases A j with⟨_,rfl⟩|⟨_,k⟩
  ·rcases Z with h1|⟨S,I,h1,m⟩
   ·omega
   ·obtain⟨n,C⟩:=R h1 m;rw[hi.off _ _ h1 (m.trans f)]at C;cases C
  ·exact(M k (hi.off _ _ k f)).1
 refine⟨⟨?_,?_,?_,?_,?_,?_,?_,?_,bb,a1,fun{x bs bv} e=>by
  rw[g.get]at e;split at e
  ·cases e;exact g.hi
  ·split at e
   ·cases e
   ·exact qe (t.mG e) g.lo⟩,N,?_,?_,g8 g.lo,ac,ae,hs,M,fun _ _ e=>.inl e⟩
 ·intro x d n q i v j f p J;rcases A j with⟨rfl,rfl⟩|⟨h1,k⟩
  ·rw[g.get,ak rfl]at f;cases f;obtain⟨B,D,E⟩:=a7 J;exact⟨B,D,E.mono N⟩
  ·have T:=K h1 f;have ab:q≠h:=by
    intro e;subst e;rcases gq.1 p with e|⟨a,r,D,E⟩
    ·exact g.g0 e
    ·rw[g.get,aj g.vu,ak rfl]at D;cases D;have:=X k;omega
   have hl:H.fR x q=true:=by
    rcases gq.1 p with e|⟨a,r,D,E⟩
    ·exact gq.2 (.inl e)
    ·exact gq.2 (.inr ⟨a,r,Q ab D,E⟩)
   obtain⟨B,D,E⟩:=t.cell k T hl J;exact⟨B,by rw[a2 k T ab];exact D,E.mono N⟩
 ·intro x d i j f;rcases A j with⟨rfl,rfl⟩|⟨_,k⟩
  ·exact a9 f
  ·exact bc k f
 ·intro x d n q j f;rcases A j with⟨rfl,rfl⟩|⟨h1,k⟩
  ·rw[g.get,ak rfl]at f;cases f;exact a3
  ·exact t.len k (K h1 f)
 ·intro x y d l2 j f p J;rcases A j with⟨h1,aw⟩|⟨h1,k⟩
  ·rcases A f with⟨m,U⟩|⟨m,F⟩
   ·exact absurd (h1.trans m.symm) J
   ·rw[aw]at p;obtain⟨n,P⟩:=R F p.symm;exact .inl ⟨b,n,h,g.g0,by rw[g.get,ak h1],L P⟩
  ·rcases A f with⟨m,U⟩|⟨m,F⟩
   ·rw[U]at p;obtain⟨n,P⟩:=R k p;exact .inl ⟨n,b,h,g.g0,L P,by rw[g.get,ak m]⟩
   ·rcases t.inj k F p J with⟨a,a',gg,C,O,h5⟩|⟨n1,n2⟩
    ·exact .inl ⟨a,a',gg,C,L O,L h5⟩
    ·exact .inr ⟨(M k n1).1,(M F n2).1⟩
 ·intro x z;have h1:=g.lo;have m:=g.hi;obtain⟨C,O⟩:=t.top (b:=x) aa;refine⟨?_,?_⟩
  ·rw[aG.add_get,aj aa];exact C
  ·rw[g.get,aj aa,aj aa];exact O
 ·intro x d j;rcases A j with⟨rfl,rfl⟩|⟨_,k⟩
  ·exact a4
  ·exact eG (t.loc k) ae
 ·intro x n q bi ap j f p;by_cases G:q=h
  ·subst G;rw[g.get,aj g.vu,ak rfl]at p;cases p;by_cases z:x=H.next
   ·omega
   ·exact g8 (Y (by rw[K z j];simp))
  ·have z:x≠H.next:=by
    intro e;rw[g.get,ak e]at j;cases j;exact G rfl
   exact t.mem (K z j) f (Q G p)
 ·intro q bi ap p;by_cases G:q=h
  ·subst G;rw[g.get,aj g.vu,ak rfl]at p;cases p;exact aE _
  ·exact t.mF (Q G p)
 ·intro x d j f;rcases A f with⟨rfl,rfl⟩|⟨_,k⟩
  ·exact⟨aE _,Z⟩
  ·rw[j]at k;cases k
 ·intro x z _ a8;rw[g.get,aj aa];split
  ·rename_i e;subst e;rcases g.old with s|⟨a,r,s⟩
   ·omega
   ·exact absurd s (a8 _ _)
  ·rfl
theorem F7{r:V×af}(f:lz H a h b=some r):r.1=.slice H.next 0 h (.grown a)∧wD H r.2 (H.next+1) b:=by
 cases f;refine⟨rfl,⟨fun x=>?_,by show H.next<H.next+1+1;omega,by show H.next+1<H.next+1+1;omega,aa,aa,.inl aa⟩⟩
 show((H.push (.cells b (H.next+1))).push (.bB H.next H.next)).get x=_
 rw[af.bf,af.bf];have e:(H.push (.cells b (H.next+1))).next=H.next+1:=rfl
 rw[e];by_cases c:x=H.next
 ·subst c;simp
 ·by_cases d:x=H.next+1
  ·subst d;simp
  ·rw[aj (fun e=>d e.symm),aj (fun e=>c e.symm),aj c,aj d]
variable{u:Nat}
theorem aii(o:Rel φ H w){r:V×af}(c:o4 H a h u b=some r):
 r.1=.slice H.next 0 u (.grown a)∧∃i g,H.get h=.cells i g∧wD H r.2 g b:=by
 unfold o4 at c;cases l:H.get h with
 |cells i g=>
  rw[l]at c
  have j:cP.casesOn (motive:=fun _=>Option (V×af)) (H.get g) aM (fun _ _=>aM)
   (fun m _=>aQ (and (bn m h) (!(fh g))) (some (.slice H.next 0 u (.grown a),(H.push (.cells b g)).set g (.bB H.next H.next))))
   (fun _=>aM)=some r:=c
  clear c;have c:=j;clear j;cases d:H.get g with
  |bB m p=>
   rw[d]at c;obtain⟨k,c⟩:=cH.1 c;cases c;rw[cu]at k;have n:g≠0:=by intro e;subst e;simp[fh]at k
   have q:g<H.next:=by
    rcases mj g H.next with h2|h2
    ·exact h2
    ·rw[(o.top h2).2]at d;cases d
   refine⟨rfl,i,g,rfl,⟨fun x=>?_,by show H.next<H.next+1;omega,by show g<H.next+1;omega,n,aa,.inr ⟨_,_,d⟩⟩⟩
   show(((H.push (.cells b g)).set g (.bB H.next H.next))).get x=_
   rw[af.aK,af.bf];by_cases f:x=H.next
   ·subst f;rw[aj aa];simp
   ·by_cases h2:x=g
    ·subst h2;rw[ak rfl,aj f,ak rfl]
    ·rw[aj (fun e=>h2 e.symm),aj (fun e=>f e.symm),aj f,aj h2]
  |_=>rw[d]at c;cases c
 |_=>rw[l]at c;cases c
end
section
variable {P:Program}{φ:aG}{H H':af}{w w':World}
theorem Rel.drew(h:Rel φ H w)(k:Nat):Rel φ H { w with drawn:=w.drawn+k }:=⟨h.cell,h.room,h.len,h.inj,h.top,h.loc,h.mem,h.mF,fun a b=>let⟨c,d⟩:=h.ck a b;⟨c,d.mono (aG.le_refl φ) rfl⟩,fun e=>(h.fC e).keep rfl (h.fC e).off,h.mG⟩
variable{u:Nat}{s:V}
theorem BJ(z:Rel φ H w)(I:aJ φ s x)(d:dS H h u s=some b):
 ∃A,bm φ b A∧∀k,(Builtin.firstCells h u x).run P { w with drawn:=w.drawn+k }=.ok ⟨A⟩ { w with drawn:=w.drawn+k }:=by
 cases I<;>first|(cases d;done)|skip
 ·rename_i J;obtain⟨_,d⟩:=cH.1 (show aQ (bn h 1) _=some b from d);obtain⟨t,g,d⟩:=av.1 (show ao (cq J u) _=some b from d);cases d;rw[e4]at g;split at g
  ·cases g;refine⟨_,J9 _,fun k=>?_⟩;simp only[Builtin.firstCells,fO];congr 1;apply tw;simp[ByteArray.data_extract]
  ·cases g
 ·rename_i B o N K i l D L M;obtain⟨r,j,n,p⟩:=xO z D (show H.cS B o (u*h)=some b from d);refine⟨r,n,fun k=>?_⟩;exact Ab j p
 ·obtain⟨_,d⟩:=cH.1 (show aQ (fh u) (some [])=some b from d);cases d;exact⟨[],.nil,fun k=>rfl⟩
 ·rename_i a i;obtain⟨e,d⟩:=cH.1 (show aQ (fh u) (some [])=some b from d);cases d;have q:u=0:=(beq_eq _ _).1 e;subst q;refine⟨[],.nil,fun k=>?_⟩;simp[Builtin.firstCells,loadCells,loadCellsFrom]
 ·rename_i a i _;have f:cq [] (u*h)=some b:=d;rw[e4]at f;split at f
  ·rename_i v;cases f;have e:u*h=0:=by simpa using v
   refine⟨[],by simpa using bm.nil,fun k=>?_⟩;cases a<;>simp[Builtin.firstCells,loadCells,loadCellsFrom,e]
  ·cases f
 ·rename_i m c o i C O y hi E G v;have F:cq (eC C 0) (u*h)=some b:=by rw[kG];exact d
  obtain⟨r,j,n,p⟩:=HE z hi E G F;refine⟨r,n,fun k=>?_⟩;exact Ab j p
 ·rename_i a;obtain⟨e,d⟩:=cH.1 (show aQ (fh u) (some [])=some b from d);cases d;have q:u=0:=(beq_eq _ _).1 e;subst q;refine⟨[],.nil,fun k=>?_⟩;cases a<;>simp[Builtin.firstCells,loadCells,loadCellsFrom]
theorem B7(b:aJ φ s x)(h:kX s=some a):(Builtin.lenOf x).run P w=.ok a w:=by
 cases b<;>first|(cases h;done)|skip
 ·rename_i c;cases h;show Result.ok _ w=_;rw[gO];rfl
 all_goals(cases h;rfl)
theorem FW(b:je a h=true):a≤1099511627776∧a*h≤1099511627776:=by
 unfold je at b;rw[cu,eZ,eZ]at b;exact b
theorem FJ(f:Rel φ H w)(r:wD H H' a b){rest:List Value}(n:bm φ b D){e:TypeId}:
 Ext φ H w (φ.add H.next ⟨w.heap.size,0,D.length+rest.length⟩) H' (w.drew.alloc (.cells ⟨D++rest⟩ e)):=by
 have o:∀ {c i:Nat},c<w.heap.size→(w.drew.alloc (.cells ⟨D++rest⟩ e)).cell? ⟨c,i,none⟩=w.cell? ⟨c,i,none⟩:=by
  intro c i h;exact World.cell?_alloc_past (w:=w.drew) _ c i h
 have m:∀i,(w.drew.alloc (.cells ⟨D++rest⟩ e)).cell? ⟨w.heap.size,0+i,none⟩=(D++rest)[i]? :=by
  intro i;have:=World.cell?_alloc_at (w:=w.drew) (⟨D++rest⟩:Array Value) e w.heap.size (0+i) rfl;rw[this];simp
 have j:∀ {c:Nat},c<w.heap.size→(w.drew.alloc (.cells ⟨D++rest⟩ e)).heap[c]? =w.heap[c]? :=by
  intro c h;show(w.heap.push _)[c]? =_;simp[wA,Nat.ne_of_lt h]
 have s:∀ {c i:Nat},c<w.heap.size→(w.drew.alloc (.cells ⟨D++rest⟩ e)).frozen? ⟨c,i,none⟩=w.frozen? ⟨c,i,none⟩:=by
  intro c i h;unfold World.frozen?;rw[j h]
 refine NO f r ?_ ?_ ?_ ?_ ?_ ?_ ?_ ?_ ?_ ?_ (.inl (aE _)) (fun d _=>j (f.loc d)) (fun d _=>j (f.loc d))
 ·intro x p z A i d _ _;exact o (f.loc d)
 ·intro x p i d k;obtain⟨g,l⟩:=f.room d k;rw[o (f.loc d),s (f.loc d)];exact⟨g,l⟩
 ·intro i v u;obtain⟨y,g,l⟩:=n.get i v u;refine⟨y,?_,l⟩;rw[m,lJ (fN.1 g).1];exact g
 ·intro i hi;have B:i<(D++rest).length:=by simpa using hi
  refine⟨⟨(D++rest)[i],by rw[m];simp⟩,?_⟩;show(match(w.heap.push (.cells ⟨D++rest⟩ e (0,0)))[w.heap.size]? with|some (.cells _ _ (lo,hi))=>decide (lo≤0+i)&&decide (0+i<hi)|_=>false)=false;simp
 ·have:=n.length;show b.length≤D.length+rest.length;omega
 ·intro x p d k;have:=f.loc d;simp at k;omega
 ·show w.heap.size<(w.heap.push _).size;simp
 ·show w.heap.size≤(w.heap.push _).size;simp
 ·intro c h _;exact j h
 ·exact⟨rfl,rfl,rfl,fun h=>(hN.alloc w.drew _).free h,fun c b t q h=>(hN.alloc w.drew _).shape c b t q h⟩
variable{L:Nat}
theorem agM(s:Rel φ H w){y:List V}(ha:wD H H' a (b++y))(m:φ h=some Q){I:List V}(F:H.get h=.cells I a){f:List Value}
 (M:bm φ b D) (a4:D.length=L) (al:∀j v,D[j]? =some v→w.cell? ⟨Q.c,Q.base+u+j,none⟩=some v) (G:bm φ y f) (Y:cG y=true) (a1:u+L+y.length≤Q.jM):
 (storeCells ⟨Q.c,Q.base+u+L,none⟩ f).run P w=.ok () (w.setCells Q.c (Q.base+u+L) f)∧
 Ext φ H w (φ.add H.next ⟨Q.c,Q.base+u,Q.jM-u⟩) H' (w.setCells Q.c (Q.base+u+L) f):=by
 have a3:=G.length;have R:∀j,j<f.length→(w.cell? ⟨Q.c,Q.base+u+L+j,none⟩).isSome=true:=fun j r=>by
  obtain⟨⟨T,o⟩,_⟩:=s.room m (i:=u+L+j) aa;have:Q.base+(u+L+j)=Q.base+u+L+j:=aa;rw[this]at o;rw[o];rfl
 have ad:∀j,j<f.length→w.frozen? ⟨Q.c,Q.base+u+L+j,none⟩=false:=fun j r=>by
  obtain⟨_,o⟩:=s.room m (i:=u+L+j) aa;have:Q.base+(u+L+j)=Q.base+u+L+j:=aa;rw[this]at o;exact o
 have O:=run_storeCells_cells (P:=P) Q.c (Q.base+u+L) f 0 w (by simpa using R) (by simpa using ad) (Jb G Y);rw[cE]at O;have K:=World.cell?_setCells_in Q.c f (Q.base+u+L) w R;have N:∀ {x:Nat}{d:Loc}{i:Nat},φ x=some d→i<d.jM→(∃p,(w.setCells Q.c (Q.base+u+L) f).cell? ⟨d.c,d.base+i,none⟩=some p)∧(w.setCells Q.c (Q.base+u+L) f).frozen? ⟨d.c,d.base+i,none⟩=false:=by
  intro x d i g k;obtain⟨⟨T,o⟩,hf⟩:=s.room g k;refine⟨?_,by rw[World.frozen?_setCells];exact hf⟩;by_cases q:d.c=Q.c∧Q.base+u+L≤d.base+i∧d.base+i<Q.base+u+L+f.length
  ·have r:d.base+i-(Q.base+u+L)<f.length:=aa;have:=K _ r;have E:Q.base+u+L+(d.base+i-(Q.base+u+L))=d.base+i:=aa;rw[E]at this;rw[q.1];exact⟨_,this⟩
  ·refine⟨T,?_⟩;rw[World.cell?_setCells_out _ _ _ _ _ (fun e _=>by simp at e⊢;omega)];exact o
 have B:∀ {x:Nat}{d:Loc},φ x=some d→d.c=Q.c→∃z,H.get x=.cells z a:=by
  intro x d g k;by_cases S:x=h
  ·subst S;exact⟨I,F⟩
  ·obtain⟨U,a2,gg,A,Z,J⟩:=(s.inj g m k S).resolve_right (fun n=>by rw[F]at n;cases n.2);rw[F]at J;cases J;exact⟨U,Z⟩
 have a5:=M.length;refine⟨O,NO s ha ?_ N ?_ ?_ ?_ B ?_ ?_ ?_ (HN _ _ _ _) (.inr ⟨h,Q,m,rfl⟩) (fun g k=>tU _ _ (fun q=>by obtain⟨z,t⟩:=B g q.symm;rw[k]at t;cases t) _ _ _) (fun g k=>tU _ _ (fun q=>by obtain⟨z,t⟩:=B g q.symm;rw[k]at t;cases t) _ _ _)⟩
 ·intro x d z g1 i g k X;rw[World.cell?_setCells_out _ _ _ _ _ (fun e _=>?_)];obtain⟨c2,l⟩:=B g e;rw[k]at l;cases l;exact absurd rfl X
 ·intro i v C;by_cases hi:i<b.length
  ·rw[lJ hi]at C;obtain⟨p,l,A⟩:=M.get i v C;refine⟨p,?_,A⟩;rw[World.cell?_setCells_out _ _ _ _ _ (fun _ _=>by simp;omega)];exact al i p l
  ·rw[q4 aa]at C;obtain⟨p,l,A⟩:=G.get _ v C;refine⟨p,?_,A⟩;have r:=(fN.1 l).1;have:=K _ r;have E:Q.base+u+L+(i-b.length)=Q.base+u+i:=aa;rw[E]at this;show(w.setCells Q.c (Q.base+u+L) f).cell? ⟨Q.c,Q.base+u+i,none⟩=some p;rw[this,←l];simp[r]
 ·intro i hi;have a0:i<Q.jM-u:=hi;have:=N m (i:=u+i) aa;rw[←jl]at this;exact this
 ·show(b++y).length≤Q.jM-u;simp;omega
 ·show Q.c<_;rw[Ae];exact s.loc m
 ·rw[Ae];exact aE _
 ·intro W q ae;exact tU Q.c W (ae h Q m) _ _ w
end
def tB(P:Program)(φ:aG)(H:af)(w:World)(ρ:Operand→Value)(o:Oper)(v:V)(H':af):Prop:=
 ∃b8 a w' b,(execOp ρ o).run P w=.ok b8 w'∧(b8=.value a∨(b8=.skip∧a=undef))∧Ext φ H w b H' w'∧aJ b v a
section
variable {P:Program}{φ:aG}{H H':af}{w w':World}{ρ:Operand→Value}{T:cg}{N:eO}{F:Fr}{dst:Option Tmp}{ty:TypeId}{pos:String}{after:Array Edge}{guard:Option (Nat×Bool)}
theorem aqB(hT:cR P T)(u:Rel φ H w)(t:iQ T g=some h){y:Operand}{a v:V}(e:aJ φ a (ρ k))(i:aJ φ v (ρ y)){r:V×af}(c:oL h [a,v] H=some r):
 tB P φ H w ρ ⟨dst,.store g k y,ty,pos,after,guard⟩ r.1 r.2:=by
 generalize z:ρ k=D at e
 generalize A:ρ y=B at i
 cases e<;>first|(cases c;done)|skip
 rename_i b o l p;obtain⟨d,c⟩:=cH.1 (show aQ (and (bg v) (bn (cr (cellsOf v)) h)) (ao (H.e5 b o (cellsOf v)) fun H=>some (V.undef,H))=some r from c);obtain⟨C,n,c⟩:=av.1 c;cases c;rw[cu,beq_eq,gO]at d;obtain⟨q,d⟩:=d;have f:=A0 i q;obtain⟨j,m⟩:=CU (P:=P) u p f n;have s:=f.length;refine⟨.skip,undef,_,φ,?_,.inr ⟨rfl,rfl⟩,m,.az .nil⟩;have x:B.cells.size=h:=by simp at s;omega
 simp only[execOp,Instr.storeAt,z,A,wE,storeVar];simp[l6 hT t,x,j]
theorem Tw(a:Rel φ H w){v:V}(b:aJ φ v (ρ k)):tB P φ H w ρ ⟨dst,.assign k,ty,pos,after,guard⟩ v H:=
 ⟨.value (ρ k),ρ k,w,φ,by simp[execOp],.inl rfl,Ext.refl a,b⟩
variable{s:V}
theorem N9(h:dS H a 0 s=some b):b=[]:=by
 cases s<;>first|(cases h;done)|skip
 ·rename_i i;obtain⟨_,h⟩:=cH.1 (show aQ (bn a 1) _=some b from h);obtain⟨t,f,h⟩:=av.1 (show ao (cq i 0) _=some b from h);cases h;rw[e4]at f;simp at f;subst f;rfl
 ·rename_i g o l j;obtain⟨c,k,h⟩:=av.1 (show ao (H.cells? g) (fun c=>cq (eC c o) (dQ 0 a))=some b from h);have e:dQ 0 a=0:=jb a;rw[e,e4]at h;simp at h;exact h
 ·obtain⟨_,h⟩:=cH.1 (show aQ (fh 0) (some [])=some b from h);cases h;rfl
 ·obtain⟨_,h⟩:=cH.1 (show aQ (fh 0) (some [])=some b from h);cases h;rfl
 ·rename_i m c;have d:cq c (dQ 0 a)=some b:=h;have e:dQ 0 a=0:=jb a;rw[e,e4]at d;simp at d;exact d
 ·obtain⟨_,h⟩:=cH.1 (show aQ (fh 0) (some [])=some b from h);cases h;rfl
theorem aha(c:dS H a h s=some b):b.length=h*a:=by
 cases s<;>first|(cases c;done)|skip
 ·rename_i k;obtain⟨d,c⟩:=cH.1 (show aQ (bn a 1) _=some b from c);obtain⟨t,g,c⟩:=av.1 (show ao (cq k h) _=some b from c);cases c;rw[beq_eq]at d;subst d;rw[e4]at g;split at g
  ·cases g;rw[amr];simp;omega
  ·cases g
 ·rename_i j o p l;obtain⟨e,n,c⟩:=av.1 (show ao (H.cells? j) (fun e=>cq (eC e o) (dQ h a))=some b from c);rw[e4]at c;split at c
  ·rename_i i;cases c;rw[dD];exact m5 i
  ·cases c
 ·obtain⟨d,c⟩:=cH.1 (show aQ (fh h) (some [])=some b from c);cases c;have:h=0:=(beq_eq _ _).1 d;subst this;simp
 ·obtain⟨d,c⟩:=cH.1 (show aQ (fh h) (some [])=some b from c);cases c;have:h=0:=(beq_eq _ _).1 d;subst this;simp
 ·rename_i m e;have f:cq e (dQ h a)=some b:=c;rw[e4]at f;split at f
  ·rename_i i;cases f;rw[dD];exact m5 i
  ·cases f
 ·obtain⟨d,c⟩:=cH.1 (show aQ (fh h) (some [])=some b from c);cases c;have:h=0:=(beq_eq _ _).1 d;subst this;simp
theorem DR{st:TypeId}(o:P.underlying st=some (.slice g)){i:TypeInfo}(hi:P.info? g=some i){c ty:TypeId}(p:P.underlying c=some E)(q:∀k,E≠ .int k)
 {a:Array TypeId} (f:a[0]? =some st) (h:a[1]? =some c) (j:Fits P w i.size 0 x D):
 (Builtin.append_ a ty #[.slice none 0 0,x]).run P w=.ok (.slice none 0 0) w:=by
 obtain⟨l,m⟩:=j;have b:=m 0;simp only[cE]at b;unfold Builtin.append_;have d:(#[Value.slice none 0 0,x]:Array Value)[0]? =some (.slice none 0 0):=rfl;have e:(#[Value.slice none 0 0,x]:Array Value)[1]? =some x:=rfl;have n:(sizeOf g).run P w=.ok i.size w:=by simp[sizeOf,qM hi]
 simp only[f,h,d,e,cU,run_underlying o,dV,n,run_underlying p,fO,ie,if_false,l,cE,aE,iY,if_true,b]
theorem Ts(hT:cR P T)(f:Rel φ H w){st xt:TypeId}{i:TypeInfo}(hu:T.bq st=some (.slice g))(hi:T.info g=some i)(hz:zeroCells T g=some b)(dt:b.length=i.size)
 (D:P.underlying xt=some E) (A:∀K,E≠ .int K) {Y:Array TypeId} (t:Y[0]? =some st) (u:Y[1]? =some xt) {x:Operand}{y:V} (hs:aJ φ s (ρ k)) (hy:aJ φ y (ρ x)) {r:V×af} (h:fH i.size i.bytes [s,y] H=some r):
 tB P φ H w ρ ⟨dst,.call ⟨.builtin .append,#[k,x],Y⟩,ty,pos,after,guard⟩ r.1 r.2:=by
 obtain⟨n,hn,bd⟩:=av.1 (show ao (kX y) _=some r from h);obtain⟨a9,a2,be⟩:=av.1 bd;clear h bd;have h:=be;clear be;obtain⟨a',O,c'⟩:=BJ (P:=P) f hy a2;have c0:=B7 (P:=P) (w:=w) hy hn;have v:Fits P w i.size n (ρ x) a':=⟨c0,c'⟩;obtain⟨d,z,p,a6,dl⟩:=yH hT hz;have cp:d=i:=by have:=hT.info g i hi;rw[p]at this;exact Option.some.inj this
 subst cp;have a8:z.cells.size=d.size:=by have:=(dl φ).length;simp at this;omega
 have B:∀ {ar yv:Value}{v':Value}{w':World},ρ k=ar→ρ x=yv→(Builtin.append_ Y ty #[ar,yv]).run P w=.ok v' w'→
  (execOp ρ ⟨dst,.call ⟨.builtin .append,#[k,x],Y⟩,ty,pos,after,guard⟩).run P w=.ok (.value v') w':=by
  intro ar yv v' w' G I L;simp only[execOp,resolve,invoke,builtin];simp[G,I,L]
 have C:=hT.bq hu;generalize q:ρ k=ar at hs
 unfold jX at h;by_cases bs:n=0
 ·subst bs;have a7:fh 0=true:=rfl;rw[a7]at h;have da:a9=[]:=N9 a2;subst da;cases O;cases hs<;>first|(cases h;done)|skip
  ·rename_i l M bo W;cases h;exact⟨_,_,_,φ,B q rfl (tP C p D A t u v aa rfl),.inl rfl,Ext.refl f,.slice M bo W⟩
  ·cases h;exact⟨_,_,_,φ,B q rfl (DR C p D A t u v),.inl rfl,Ext.refl f,.an⟩
  ·cases h;exact⟨_,_,_,φ,B q rfl (tP C p D A t u v aa rfl),.inl rfl,Ext.refl f,.emp _ _⟩
  ·rename_i a j bi;cases h;cases a with
   |none=>
    rw[bi rfl]at q;exact⟨_,_,_,φ,B q rfl (DR C p D A t u v),.inl rfl,Ext.refl f,.eW _ _ (fun _=>rfl)⟩
   |some a=>exact⟨_,_,_,φ,B q rfl (tP C p D A t u v aa rfl),.inl rfl,Ext.refl f,.eW _ _ bi⟩
  ·rename_i m U o j dq vs y co N hv F;cases h;exact⟨_,_,_,φ,B q rfl (tP C p D A t u v aa rfl),.inl rfl,Ext.refl f,.row co N hv F⟩
  ·rename_i a;cases h;cases a with
   |none=>exact⟨_,_,_,φ,B q rfl (DR C p D A t u v),.inl rfl,Ext.refl f,.gM _⟩
   |some a=>exact⟨_,_,_,φ,B q rfl (tP C p D A t u v aa rfl),.inl rfl,Ext.refl f,.gM _⟩
 ·have a7:fh n=false:=mY.2 (fun g=>bs ((beq_eq _ _).1 g));rw[a7]at h;have a3:a'.length=n*d.size:=by rw[←O.length];exact aha a2
  cases hs<;>first|(cases h;done)|skip
  ·rename_i b1 o e b2 j l M bo W;obtain⟨ad,h⟩:=cH.1 h;obtain⟨a1,ac⟩:=FW ad
   have bj:∀ {al:List V},H.cS b1 o (e*d.size)=some al→j<e+n→∀ {a0:Nat}{Z:af},wD H Z a0 (al++a9)→
    tB P φ H w ρ ⟨dst,.call ⟨.builtin .append,#[k,x],Y⟩,ty,pos,after,guard⟩ (.slice H.next 0 (e+n) (.grown d.size)) Z:=by
    intro al X ci a0 Z hA;obtain⟨ba,G,I,L⟩:=xO f M X
    obtain⟨U,N,am,R,S⟩:=DQ (P:=P) (w:=w) (ty:=ty) C p a6 a8 D A t u (a:=some ⟨l.c,l.base+o,none⟩) (len:=e) (cap:=j) (old:=ba) v ci
     (fun K=>Ab (w:= { w with drawn:=w.drawn+K }) G L) a1 ac
    have ab:=FJ (w:=w) f hA (rest:=am) (I.append O) (e:=g);refine⟨_,_,_,_,B q rfl S,.inl rfl,ab,.slice (aG.tO _ _ _) N ?_⟩;show 0+U*d.size≤_;have aw:(ba++a').length=(e+n)*d.size:=by
     rw[aS,G,a3,cF]
    rw[aw,R,←cF,dK];exact dn _ aa
   cases b2 with
   |known K=>
    have hk:j=K:=W;subst hk;by_cases F:e+n≤j
    ·have g:bM (gv e n) j=true:=(eZ _ _).2 F;simp only[g]at h;obtain⟨Z,a5,h⟩:=av.1 h;cases h;obtain⟨G,I⟩:=CU (P:=P) f M O a5;have L:l.base+(gv o (dQ e d.size))=l.base+o+e*d.size:=by
      show l.base+(o+e*d.size)=_;omega
     rw[L]at G I;exact⟨_,_,_,φ,B q rfl (tP C p D A t u v F (by rw[mu];exact G)),.inl rfl,I,.slice M F rfl⟩
    ·have g:bM (gv e n) j=false:=mY.2 (fun h=>F ((eZ _ _).1 h));simp only[g]at h;obtain⟨al,X,h⟩:=av.1 h;obtain⟨Q,J⟩:=F7 h;rw[Q];rw[iP]at J;exact bj X aa J
   |grown sz=>
    obtain⟨ap,hB⟩:=cH.1 h;clear h;rw[cu,beq_eq]at ap;obtain⟨ap,db⟩:=ap;subst ap;obtain⟨al,X,cf⟩:=av.1 hB;obtain⟨Q,dp,a0,hg,J⟩:=aii f cf;rw[Q];rw[iP]at J;by_cases F:e+n≤j
    ·obtain⟨ba,G,I,L⟩:=xO f M X;have c1:o+e*d.size+a9.length≤l.jM:=by
      have h5:o+j*d.size≤l.jM:=W;have h6:=O.length;have h7:(e+n)*d.size≤j*d.size:=dn _ F;rw[cF]at h7;omega
     obtain⟨b',aw⟩:=agM (P:=P) f J M hg I G L O db c1;refine⟨_,_,_,_,B q rfl (tP C p D A t u v F (by rw[mu];exact b')),.inl rfl,aw,?_⟩;have:=aJ.slice (φ:=φ.add H.next ⟨l.c,l.base+o,l.jM-o⟩) (b:=H.next) (o:=0) (len:=e+n) (cap:=.grown d.size) (cap':=j) (aG.tO _ _ _) F (by
      show 0+j*d.size≤l.jM-o;have h5:o+j*d.size≤l.jM:=W;omega)
     exact this
    ·exact bj X aa J
   |nw=>cases h
   |least K=>
    have hk:K≤j:=W;obtain⟨cs,h⟩:=cH.1 h;have F:e+n≤K:=(eZ _ _).1 cs;obtain⟨Z,a5,h⟩:=av.1 h;cases h;obtain⟨G,I⟩:=CU (P:=P) f M O a5;have L:l.base+(gv o (dQ e d.size))=l.base+o+e*d.size:=by
     show l.base+(o+e*d.size)=_;omega
    rw[L]at G I;exact⟨_,_,_,φ,B q rfl (tP C p D A t u v (cy F hk) (by rw[mu];exact G)),.inl rfl,I,.slice M (cy F hk) hk⟩
  ·obtain⟨ad,h⟩:=cH.1 h;obtain⟨a1,ac⟩:=FW ad;obtain⟨Q,J⟩:=F7 h;rw[Q];obtain⟨U,N,am,R,S⟩:=DQ (P:=P) (w:=w) (ty:=ty) C p a6 a8 D A t u (a:=none) (len:=0) (cap:=0) (old:=[]) v aa (fun K=>rfl) aa (by rw[dK];exact ac);simp only[dK]at S N R;have ab:=FJ (w:=w) f J (rest:=am) O (e:=g);refine⟨_,_,_,_,B q rfl S,.inl rfl,ab,.slice (aG.tO _ _ _) N ?_⟩;show 0+U*d.size≤_;rw[a3,R,←cF,dK];exact dn _ aa
  ·rename_i a;obtain⟨ad,h⟩:=cH.1 h;obtain⟨a1,ac⟩:=FW ad;obtain⟨Q,J⟩:=F7 h;rw[Q];obtain⟨U,N,am,R,S⟩:=DQ (P:=P) (w:=w) (ty:=ty) C p a6 a8 D A t u (a:=a) (len:=0) (cap:=0) (old:=[]) v aa (fun K=>by cases a<;>simp[Builtin.firstCells,loadCells,loadCellsFrom]) aa (by rw[dK];exact ac);simp only[dK]at S N R;have ab:=FJ (w:=w) f J (rest:=am) O (e:=g);refine⟨_,_,_,_,B q rfl S,.inl rfl,ab,.slice (aG.tO _ _ _) N ?_⟩;show 0+U*d.size≤_;rw[a3,R,←cF,dK];exact dn _ aa
end
section
variable {P:Program}{φ:aG}{H H':af}{w w':World}{ρ:Operand→Value}{T:cg}{N:eO}{F:Fr}{dst:Option Tmp}{ty:TypeId}{pos:String}{after:Array Edge}{guard:Option (Nat×Bool)}
def j6(w:World)(c:Nat)(o:Obj):World:= { w with heap:=w.heap.setIfInBounds c o }
theorem ny(b:a≠h)(o:Obj):(j6 w a o).heap[h]? =w.heap[h]? :=by
 show(w.heap.setIfInBounds a o)[h]? =_;rw[Array.getElem?_setIfInBounds_ne b]
theorem Hh(h:a<w.heap.size)(o:Obj):(j6 w a o).heap[a]? =some o:=by
 show(w.heap.setIfInBounds a o)[a]? =_;simp[h]
theorem HL{o o':Obj}(h:w.heap[a]? =some o)(b:Gb o=false):(setObj a o').run P w=.ok () (j6 w a o'):=by
 cases o<;>first|(cases b;done)|simp[setObj,Sem.run,h,j6]
theorem HM{o:Obj}(h:w.heap[a]? =some o)(g:Gb o=false)(j:∀d e,o≠ .pending d e)(x:Obj):hN w (j6 w a x):=⟨rfl,rfl,rfl,fun{c i} b=>by
 by_cases e:a=c
 ·subst e;obtain⟨⟨v,f⟩,_⟩:=b;unfold World.cell? at f;rw[h]at f;cases o<;>first|(cases g;done)|(exact absurd rfl (j _ _))|(simp at f;done)
 ·exact qZ.of_heap (ny e x) b,fun c d t k b=>by
 by_cases e:a=c
 ·subst e;rw[h]at b;cases b;cases g
 ·exact⟨d,(ny e x).trans b,rfl⟩⟩
theorem FI(l:Rel φ H w)(u:φ h=some Q){o o':oh}(r:H.get h=.ck o){x:Obj}(hx:ur φ (j6 w Q.c x) Q.c o')(K:∀y,o≠ .ro y:=by intro _ p;cases p):Ext φ H w φ (H.set h (.ck o')) (j6 w Q.c x):=by
 have T:(j6 w Q.c x).heap.size=w.heap.size:=by simp[j6]
 have F:∀ {b:Nat}{s:Loc},φ b=some s→b≠h→s.c≠Q.c:=by
  intro b s f j t;obtain⟨_,_,_,_,_,I⟩:=(l.inj f u t j).resolve_right (fun n=>by rw[r]at n;cases n.2);rw[r]at I;cases I
 have L:∀ {b:Nat}{C:List V}{g:Nat},(H.set h (.ck o')).get b=.cells C g→b≠h∧H.get b=.cells C g:=by
  intro b C g p;rw[af.aK]at p;split at p
  ·cases p
  ·rename_i e;exact⟨fun z=>e z.symm,p⟩
 have M:∀ {b a k:Nat},(H.set h (.ck o')).get b=.bB a k→H.get b=.bB a k:=by
  intro b a k p;rw[af.aK]at p;split at p
  ·cases p
  ·exact p
 have ab:∀ {b g:Nat},(H.set h (.ck o')).fR b g=true→H.fR b g=true:=by
  intro b g p;rcases gq.1 p with e|⟨a,k,e,z⟩
  ·exact gq.2 (.inl e)
  ·exact gq.2 (.inr ⟨a,k,M e,z⟩)
 have S:∀ {k i:Nat},k≠Q.c→(j6 w Q.c x).cell? ⟨k,i,none⟩=w.cell? ⟨k,i,none⟩:=by
  intro k i p;unfold World.cell?;rw[ny (fun e=>p e.symm)]
 have Z:∀ {k i:Nat},k≠Q.c→(j6 w Q.c x).frozen? ⟨k,i,none⟩=w.frozen? ⟨k,i,none⟩:=by
  intro k i p;unfold World.frozen?;rw[ny (fun e=>p e.symm)]
 have ad:hN w (j6 w Q.c x):=by
  have G:=(l.ck u r).2;cases o with
  |map W=>obtain⟨X,q,_⟩:=G;exact HM q rfl aB x
  |iter m a h k d=>obtain⟨lm,_,_,q,_⟩:=G;exact HM q rfl aB x
  |ro y=>exact absurd rfl (K y)
 have ac:∀i,¬i<Q.jM:=by
  intro i hi;obtain⟨⟨v,N⟩,_⟩:=l.room u hi;have G:=(l.ck u r).2;unfold World.cell? at N;cases o with
  |map W=>obtain⟨X,q,_⟩:=G;simp[q]at N
  |iter m a h k d=>obtain⟨lm,_,_,q,_⟩:=G;simp[q]at N
  |ro y=>exact absurd rfl (K y)
 refine⟨⟨?_,?_,?_,?_,?_,?_,?_,?_,?_,fun e=>(l.fC e).keep (ny (fun R=>(l.fC e).tT u (by rw[r];simp) R) x) (fun b s f j=>by
  have t:=(l.fC e).off b s f j;rw[af.aK,aj (fun D=>by rw[←D,r]at t;cases t)];exact t),fun{a3 aw a0} e=>by
  rw[af.aK]at e;split at e
  ·cases e
  ·exact l.mG e⟩,aG.le_refl φ,fun f j=>absurd (f.symm.trans j) aB,?_,aE _,?_,by rw[T];exact aE _,ad,fun{b s} f j=>⟨by rw[af.aK,aj (fun e=>by rw[←e,r]at j;cases j)];exact j,ny (fun e=>F f (fun z=>by rw[z,r]at j;cases j) e.symm) x⟩,fun _ _ e=>.inl e⟩
 ·intro b s C g i v f j t D;obtain⟨B,E⟩:=L j;obtain⟨v',q,A⟩:=l.cell f E (ab t) D;exact⟨v',by rw[S (F f B)];exact q,A⟩
 ·intro b s i f j;by_cases e:b=h
  ·subst e;rw[u]at f;cases f;exact absurd j (ac i)
  ·rw[S (F f e),Z (F f e)];exact l.room f j
 ·intro b s C g f j;exact l.len f (L j).2
 ·intro b b2 s l2 f j t D;rcases l.inj f j t D with⟨U,I,g,q,A,J⟩|⟨O,P⟩
  ·refine .inl ⟨U,I,g,q,?_,?_⟩
   ·rw[af.aK,aj (by intro e;rw[←e,r]at A;cases A)];exact A
   ·rw[af.aK,aj (by intro e;rw[←e,r]at J;cases J)];exact J
  ·refine .inr ⟨?_,?_⟩
   ·rw[af.aK,aj (by intro e;rw[←e,r]at O;cases O)];exact O
   ·rw[af.aK,aj (by intro e;rw[←e,r]at P;cases P)];exact P
 ·intro b q;obtain⟨B,E⟩:=l.top (b:=b) q;refine⟨B,?_⟩;rw[af.aK,aj (by intro e;rw[←e,u]at B;cases B)];exact E
 ·intro b s f;rw[T];exact l.loc f
 ·intro b C g al Y f j t;exact l.mem (L f).2 j (M t)
 ·intro g al Y f;exact l.mF (M f)
 ·intro b s o1 f j;by_cases e:b=h
  ·subst e;rw[u]at f;cases f;rw[af.aK,ak rfl]at j;cases j;exact⟨(l.ck u r).1,hx⟩
  ·rw[af.aK,aj (fun z=>e z.symm)]at j;obtain⟨B,E⟩:=l.ck f j;exact⟨B,E.mono (aG.le_refl φ) (ny (fun z=>F f e z.symm) x)⟩
 ·intro b q A J;rw[af.aK,aj (by intro e;rw[←e,u]at A;cases A)]
 ·intro k R K;exact ny (fun e=>K h Q u e) x
theorem NQ(k:Rel φ H w){o:oh}{x:Obj}(X:ur (φ.add H.next ⟨w.heap.size,0,0⟩) (w.alloc x) w.heap.size o):
 Ext φ H w (φ.add H.next ⟨w.heap.size,0,0⟩) (H.push (.ck o)) (w.alloc x):=by
 have J:φ H.next=none:=(k.top (aE _)).1
 have E:=aG.vF (l:=⟨w.heap.size,0,0⟩) J;have W:(w.alloc x).heap.size=w.heap.size+1:=by show(w.heap.push x).size=_;simp
 have s:∀ {y:Nat}{l:Loc},φ.add H.next ⟨w.heap.size,0,0⟩ y=some l→(y=H.next∧l=⟨w.heap.size,0,0⟩)∨(y≠H.next∧φ y=some l):=by
  intro y l B;rw[aG.add_get]at B;split at B
  ·cases B;exact .inl ⟨by assumption,rfl⟩
  ·exact .inr ⟨by assumption,B⟩
 have u:∀ {c:Nat},c<w.heap.size→(w.alloc x).heap[c]? =w.heap[c]? :=by
  intro c h;show(w.heap.push x)[c]? =_;simp[wA,Nat.ne_of_lt h]
 have I:∀ {c i:Nat},c<w.heap.size→(w.alloc x).cell? ⟨c,i,none⟩=w.cell? ⟨c,i,none⟩:=by
  intro c i h;unfold World.cell?;rw[u h]
 have R:∀ {c i:Nat},c<w.heap.size→(w.alloc x).frozen? ⟨c,i,none⟩=w.frozen? ⟨c,i,none⟩:=by
  intro c i h;unfold World.frozen?;rw[u h]
 have C:∀ {b:Nat}{p:List V}{g:Nat},(H.push (.ck o)).get b=.cells p g→H.get b=.cells p g:=by
  intro b p g h;rw[af.bf]at h;split at h
  ·cases h
  ·exact h
 have D:∀ {b a c:Nat},(H.push (.ck o)).get b=.bB a c→H.get b=.bB a c:=by
  intro b a c h;rw[af.bf]at h;split at h
  ·cases h
  ·exact h
 have T:∀ {b g:Nat},(H.push (.ck o)).fR b g=true→H.fR b g=true:=by
  intro b g h;rcases gq.1 h with e|⟨a,c,e,L⟩
  ·exact gq.2 (.inl e)
  ·exact gq.2 (.inr ⟨a,c,D e,L⟩)
 have K:∀ {b:Nat}{n:Loc}{p:List V}{g:Nat},φ.add H.next ⟨w.heap.size,0,0⟩ b=some n→(H.push (.ck o)).get b=.cells p g→φ b=some n:=by
  intro b n p g j d;rcases s j with⟨rfl,rfl⟩|⟨_,f⟩
  ·rw[af.bf,ak rfl]at d;cases d
  ·exact f
 have S:∀ {c:Nat}{y:Obj},φ.im c=some y→p0 (φ.add H.next ⟨w.heap.size,0,0⟩) (H.push (.ck o)) (w.alloc x) c y:=by
  intro c y e;have hi:=k.fC e;have U:=hi.lt;refine hi.keep (u U) ?_;intro b n j d;rcases s j with⟨_,rfl⟩|⟨m,r⟩
  ·have:w.heap.size=c:=d;omega
  ·rw[af.bf,aj (fun e=>m e.symm)];exact hi.off _ _ r d
 refine⟨⟨?_,?_,?_,?_,?_,?_,?_,?_,?_,S,fun{al ac P} e=>by
  show P<H.next+1
  rw[af.bf]at e;split at e
  ·cases e
  ·have:=k.mG e;omega⟩,E,?_,?_,by show H.next≤H.next+1;omega,?_,aa,hN.alloc w x,fun{b n} j d=>⟨by rw[af.bf,aj (fun e=>by rw[←e,J]at j;cases j)];exact d,u (k.loc j)⟩,fun _ _ e=>.inl e⟩
 ·intro b n p g i v j d q A;have r:=K j d;obtain⟨Z,m,t⟩:=k.cell r (C d) (T q) A;exact⟨Z,by rw[I (k.loc r)];exact m,t.mono E⟩
 ·intro b n i j d;rcases s j with⟨rfl,rfl⟩|⟨_,f⟩
  ·exact absurd d (ke _)
  ·rw[I (k.loc f),R (k.loc f)];exact k.room f d
 ·intro b n p g j d;exact k.len (K j d) (C d)
 ·intro b b2 n l2 j d q A;rcases s j with⟨m,F⟩|⟨m,r⟩
  ·rcases s d with⟨t,G⟩|⟨t,z⟩
   ·exact absurd (m.trans t.symm) A
   ·have:=k.loc z;rw[F]at q;simp at q;omega
  ·rcases s d with⟨t,G⟩|⟨t,z⟩
   ·have:=k.loc r;rw[G]at q;simp at q;omega
   ·rw[af.bf,aj (fun e=>m e.symm),af.bf,aj (fun e=>t e.symm)];exact k.inj r z q A
 ·intro b m;have F:H.next+1≤b:=m
  obtain⟨r,z⟩:=k.top (b:=b) aa;refine⟨?_,?_⟩
  ·rw[aG.add_get,aj aa];exact r
  ·rw[af.bf,aj aa];exact z
 ·intro b n j;rw[W];rcases s j with⟨rfl,rfl⟩|⟨_,f⟩
  ·simp
  ·have:=k.loc f;omega
 ·intro b p g Y M j d q;exact k.mem (C j) d (D q)
 ·intro g Y M j;exact k.mF (D j)
 ·intro b n o1 j d;rcases s j with⟨rfl,rfl⟩|⟨m,f⟩
  ·rw[af.bf,ak rfl]at d;cases d;exact⟨rfl,X⟩
  ·rw[af.bf,aj (fun e=>m e.symm)]at d;obtain⟨N,O⟩:=k.ck f d;exact⟨N,O.mono E (u (k.loc f))⟩
 ·intro b n j d;rcases s d with⟨rfl,rfl⟩|⟨_,f⟩
  ·exact⟨aE _,.inl (aE _)⟩
  ·rw[j]at f;cases f
 ·intro b m _ _;rw[af.bf,aj aa]
 ·intro c Q _;exact u Q
theorem Je(x:Obj):(w.alloc x).heap[w.heap.size]? =some x:=by
 show(w.heap.push x)[w.heap.size]? =_;simp
theorem amM(a:Rel φ H w){r:V×af}(h:Gz [] H=some r):tB P φ H w ρ ⟨dst,.makeMap g none,ty,pos,after,guard⟩ r.1 r.2:=by
 cases h;refine⟨.value (.map (some w.heap.size)),_,w.alloc (.map #[] 0),_,?_,.inl rfl,NQ a ⟨[],Je _,by simp[q7]⟩,.map (aG.tO _ _ _)⟩;simp[execOp,Instr.makeMap]
theorem PF(n:Nat):a∈upto n↔a<n:=by
 induction n with
 |zero=>show a∈[]↔_;simp
 |succ n b=>
  show a∈n::upto n↔_;rw[g7,b];omega
variable{s:V}
theorem aoK(hT:cR P T)(a:Rel φ H w){q e:TypeId}(n:T.bq g=some (.map q e))(d:aJ φ s (ρ k)){r:V×af}(h:z4 [s] H=some r):tB P φ H w ρ ⟨dst,.range g k,ty,pos,after,guard⟩ r.1 r.2:=by
 generalize p:ρ k=x at d
 cases d<;>first|(cases h;done)|skip
 rename_i t l f;obtain⟨b,m,h⟩:=av.1 (show ao (H.jg t) _=some r from h);cases h;obtain⟨u,j,v⟩:=zH a f m;have o:=uC (P:=P) j rfl;refine⟨.value (.pointer (some ⟨w.heap.size,0,none⟩)),_,w.alloc (.mapIter (some l.c) b.length #[] b.length),_,?_,.inl rfl,NQ a ⟨l,[],aG.vF (a.top (aE _)).1 _ _ f,?_,fun e=>absurd rfl e,rfl,fun i hi _=>(PF _).2 hi,fun i hi=>⟨(PF _).1 hi,aB⟩⟩,?_⟩
 ·simp only[execOp,Instr.range,p,cU,run_underlying (hT.bq n),dV,o,fO,run_newObj];rfl
 ·rw[Je,gO]
 ·have:=aJ.ptr (o:=0) (aG.tO φ H.next ⟨w.heap.size,0,0⟩)
  simpa using this
theorem PB(l:List f)(x:f):∀n,zB l x n=l.set n x:=by
 induction l with
 |nil=>intro n;rfl
 |cons a l b=>intro n;cases n with
  |zero=>rfl
  |succ n=>exact congrArg (a:: ·) (b n)
theorem Um{a:V}(h:w8 E a s=some true):a=s∧(match a with|.int _ _=>True|_=>False):=by
 cases E<;>first|(cases h;done)|skip
 cases a<;>first|(cases h;done)|skip
 cases s<;>first|(cases h;done)|skip
 rename_i k x d y;obtain⟨b,h⟩:=cH.1 (show aQ (g_ k d) (some (mH x y))=some true from h);have c:mH x y=true:=Option.some.inj h;rw[xI]at b;rw[rG]at c;have e:k=d:=by simpa using b
 have f:x=y:=by simpa using c
 exact⟨by rw[e,f],trivial⟩
theorem Uk{a:V}(h:w8 E a s=some true){b:Value}(d:aJ φ a x)(e:aJ φ s b)(n:Nat):x=b∧Instr.sameBits n b x=true:=by
 obtain⟨rfl,c⟩:=Um h;cases d<;>first|(exact c.elim)|skip
 all_goals cases e<;>exact⟨rfl,by cases n<;>simp[Instr.sameBits,beq_toListBytes]⟩
theorem Uo:∀ {ds:List TypeDesc}{c e:List V},m9 ds c e=some true→∀ {f g:List Value},bm φ c f→bm φ e g→∀n,f=g∧(g.zip f).all (fun(x,y)=>Instr.sameBits n x y)=true:=by
 intro ds;induction ds with
 |nil=>
  intro c e h f g i j n;cases c<;>cases e<;>first|(cases h;done)|skip
  cases i;cases j;exact⟨rfl,rfl⟩
 |cons d ds z=>
  intro c e h f g i j n;obtain⟨x,c,y,e,a,b,rfl,rfl,k,l,m⟩:=Eh h;have o:a=true∧b=true:=by simpa using m.symm
  obtain⟨rfl,rfl⟩:=o;obtain⟨A,B,rfl,t,u⟩:=i.cons_inv;obtain⟨C,D,rfl,v,w⟩:=j.cons_inv;obtain⟨p,q⟩:=Uk k t v n;obtain⟨r,s⟩:=z l u w n;exact⟨by rw[p,r],by simp[q];simpa using s⟩
variable{y:V→V→Option Bool}
theorem alO(j:rI T g=some y){a:V}(h:y a s=some true){b:Value}(f:aJ φ a x)(i:aJ φ s b):Instr.sameBits 10000 b x=true:=by
 obtain⟨_,_,ds,_,_,rfl⟩:=zv j;obtain⟨o,p,rfl,rfl,e⟩:=Gm h;obtain⟨m,rfl,k⟩:=f.yW;obtain⟨n,rfl,l⟩:=i.yW;obtain⟨c,d⟩:=Uo e k l 9999;have hl:m.length=n.length:=by rw[c]
 simp[Instr.sameBits,hl];simpa using d
theorem amU:∀ {a:List (V×V)}{i j:Nat}{v:V},pC y s a i=some (some (j,v))→∃c,i≤j∧a[j-i]? =some (c,v)∧y s c=some true:=by
 intro a;induction a with
 |nil=>intro i j v h;cases h
 |cons e a l=>
  intro i j v h;obtain⟨b,k,⟨rfl,d⟩|⟨rfl,d⟩⟩:=PI h
  ·cases d;exact⟨e.1,aE _,aB,k⟩
  ·obtain⟨c,m,f,g⟩:=l d;refine⟨c,aa,?_,g⟩;have:j-i=(j-(i+1))+1:=aa;rw[this];simpa using f
theorem art(hT:cR P T)(z:Rel φ H w){W e:TypeId}(hd:T.bq g=some (.map W e))(D:rI T W=some y){k v:V}{a d:Value}(hm:aJ φ s x)(p:aJ φ k a)(U:aJ φ v d){r:V×af}(h:yA y [s,k,v] H=some r):
 ∃w',(Instr.mapUpdate g x a d).run P w=.ok () w'∧Ext φ H w φ r.2 w'∧r.1=V.undef:=by
 cases hm<;>first|(cases h;done)|skip
 rename_i a6 l t;obtain⟨b,hb,h⟩:=av.1 (show ao (y k k) _=some r from h);obtain⟨c,J,h⟩:=av.1 h;obtain⟨q,K,h⟩:=av.1 h;have R:=GA J;obtain⟨f,B,m⟩:=zH z t J;obtain⟨X,g3,C⟩:=N7 hT D p m K w;have N:=uC (P:=P) B rfl;have M:=KD hT D p hb false w;have O:=z.loc t;have S:=run_underlying (hT.bq hd) w;cases q with
 |none=>
  cases h;cases X with
  |some n=>exact C.elim
  |none=>
   have F:=HL (P:=P) (o':=.map ((⟨f⟩:Array MapEntry).push { key:=a,val:=d,born:=c.length }) (c.length+1)) B rfl;refine⟨_,?_,FI z t R (o':=.map (cW c [(k,v)])) (x:=.map ((⟨f⟩:Array MapEntry).push { key:=a,val:=d,born:=c.length }) (c.length+1)) ?_,rfl⟩
   ·simp only[Instr.mapUpdate,cU,S,dV,N,M,g3,F]
   ·refine⟨f++[{ key:=a,val:=d,born:=c.length }],?_,?_⟩
    ·rw[Hh O,iP];simp
    ·rw[iP];refine⟨by simp[m.1],?_⟩;intro i G I hi;rcases mj i c.length with Q|hge
     ·rw[lJ Q]at hi;obtain⟨n,o,A⟩:=m.2 i G I hi;exact⟨n,by rw[lJ (by rw[m.1];exact Q)];exact o,A⟩
     ·rw[q4 hge]at hi;have ap:i=c.length:=by
       have:=(fN.1 hi).1;simp at this;omega
      subst ap;simp at hi;obtain⟨rfl,rfl⟩:=hi;refine⟨{ key:=a,val:=d,born:=c.length },?_,p,U,rfl⟩;rw[q4 (by rw[m.1];exact aE _),m.1];simp
 |some n=>
  obtain⟨j,u⟩:=n;cases h;cases X with
  |none=>exact C.elim
  |some x'=>
   obtain⟨j',u'⟩:=x';obtain⟨rfl,a4⟩:=C;obtain⟨k0,_,L,h4⟩:=amU K;rw[Nat.sub_zero]at L;obtain⟨Y,o,A,f3,f4⟩:=m.2 j k0 u L;have al:=alO D h4 p A;have a3:j<f.length:=(fN.1 o).1;have F:=HL (P:=P) (o':=.map ((⟨f⟩:Array MapEntry).modify j fun e=> { e with key:=a,val:=d }) c.length) B rfl;refine⟨_,?_,FI z t R (o':=.map (zB c (k,v) j)) (x:=.map ((⟨f⟩:Array MapEntry).modify j fun e=> { e with key:=a,val:=d }) c.length) ?_,rfl⟩
   ·have ar:(Instr.keyThatStays ((((⟨f⟩:Array MapEntry)[j]?).map (·.key)).getD a) a).run P w=.ok a w:=by
     have:(⟨f⟩:Array MapEntry)[j]? =some Y:=by simpa using o
     simp[Instr.keyThatStays,this,al]
    simp only[Instr.mapUpdate,cU,S,dV,N,M,g3,ar,F]
   ·refine⟨f.modify j fun e=> { e with key:=a,val:=d },?_,?_⟩
    ·rw[Hh O,PB];simp
    ·rw[PB];refine⟨by simp[m.1],?_⟩;intro i G I hi;rw[oU]at hi;rw[List.getElem?_modify];by_cases E:j=i
     ·subst E;rw[ak rfl]at hi;split at hi
      ·cases hi;refine⟨{ Y with key:=a,val:=d },by simp[o],p,U,f4⟩
      ·cases hi
     ·rw[aj E]at hi;obtain⟨n,Z,e2⟩:=m.2 i G I hi;exact⟨n,by simp[E,Z],e2⟩
end
section
variable {P:Program}{φ:aG}{H H':af}{w w':World}{ρ:Operand→Value}{T:cg}{N:eO}{F:Fr}{dst:Option Tmp}{ty:TypeId}{pos:String}{after:Array Edge}{guard:Option (Nat×Bool)}
variable{s:V}
theorem UW(hT:cR P T)(f:Rel φ H w){st:TypeId}(W:T.bq st=some (.slice g))(L:iQ T g=some h){G:Array TypeId}(K:G[0]? =some st){c x:Operand}{y:V}(M:aJ φ s (ρ c))(i:aJ φ y (ρ x)){r:V×af}(A:ov h [s,y] H=some r):
 tB P φ H w ρ ⟨dst,.call ⟨.builtin .copy,#[c,x],G⟩,ty,pos,after,guard⟩ r.1 r.2:=by
 have N:=run_underlying (hT.bq W)
 have E:∀ {a:Option Addr}{u C m k:Nat}{j:List Value}{w':World},ρ c=.slice a u C→(Builtin.lenOf (ρ x)).run P w=.ok m w→Nat.min m u=k→(Builtin.firstCells h k (ρ x)).run P w=.ok ⟨j⟩ w→
  (match a with|some a=>storeCells a j|none=>pure ():Sem Unit).run P w=.ok () w'→
  (execOp ρ ⟨dst,.call ⟨.builtin .copy,#[c,x],G⟩,ty,pos,after,guard⟩).run P w=.ok (.value (.int .i64 k)) w':=by
  intro a u C m k j w' v z I J D;simp only[execOp,resolve,invoke,builtin,Builtin.copy_];have Z:(#[ρ c,ρ x]:Array Value)[0]? =some (ρ c):=rfl;have g1:(#[ρ c,ρ x]:Array Value)[1]? =some (ρ x):=rfl;have ac:(#[c,x]:Array Operand).map ρ=#[ρ c,ρ x]:=aB;cases a with
  |none=>cases D;simp[K,v,N,z,I,l6 hT L,J,goInt]
  |some a=>simp at D;simp[K,v,N,z,I,l6 hT L,J,goInt,D]
 generalize F:ρ c=al at M
 cases M<;>first|(cases A;done)|skip
 ·rename_i b o u C Y l S ad ae;obtain⟨m,q,n⟩:=av.1 (show ao (kX y) _=some r from A);obtain⟨O,e,p⟩:=av.1 n;obtain⟨X,U,R⟩:=av.1 p;cases R;obtain⟨j,B,t⟩:=BJ (P:=P) f i e;obtain⟨v,z⟩:=CU (P:=P) f S B U;have d:=t 0;simp only[cE]at d;refine⟨_,_,_,φ,E F (B7 i q) (k:=dU m u) (by rw[Ci]) d v,.inl rfl,z,.int _ _⟩
 ·obtain⟨m,q,n⟩:=av.1 (show ao (kX y) _=some r from A);obtain⟨O,e,p⟩:=av.1 n;cases p;obtain⟨j,B,t⟩:=BJ (P:=P) f i e;have d:=t 0;simp only[cE]at d;exact⟨_,_,_,φ,E F (B7 i q) (k:=0) aB d rfl,.inl rfl,Ext.refl f,.int _ _⟩
 ·obtain⟨m,q,n⟩:=av.1 (show ao (kX y) _=some r from A);obtain⟨O,e,p⟩:=av.1 n;cases p;have Q:=N9 e;subst Q;obtain⟨j,B,t⟩:=BJ (P:=P) f i e;cases B;have d:=t 0;simp only[cE]at d;exact⟨_,_,_,φ,E F (B7 i q) (k:=0) aB d rfl,.inl rfl,Ext.refl f,.int _ _⟩
theorem agm(hT:cR P T)(E:Rel φ H w)(o:Oper){g:List V→af→Option (V×af)}(j:cop N T o.op=.gB t g)(D:jE φ F ρ o.op.operands.toList){r:V×af}(h:g (vals t F) H=some r):
 tB P φ H w ρ o r.1 r.2:=by
 obtain⟨dst,aw,ty,pos,after,guard⟩:=o;simp only at j D;cases aw<;>simp only[cop,reduceCtorEq]at j<;>simp only[Op.operands]at D
 case assign x=>
  obtain⟨f,C,j⟩:=av.1 (dz j aB);cases j;cases h;exact Tw E (pH D C)
 case store M a v=>
  obtain⟨J,C,j⟩:=av.1 (dz j aB);obtain⟨n,S,j⟩:=av.1 j;cases j;obtain⟨x,y,B,A,u⟩:=yz D C;rw[B]at h;exact aqB hT E S A u h
 case makeMap M q=>
  cases q<;>cases j;exact amM E h
 case mapUpdate M m k v=>
  obtain⟨J,R,j⟩:=av.1 (dz j aB);obtain⟨d,I,j⟩:=av.1 j;cases d<;>simp only[reduceCtorEq]at j;obtain⟨f,C,j⟩:=av.1 j;cases j;obtain⟨a,b,c,B,A,u,L⟩:=R7 D R;rw[B]at h;obtain⟨w',Z,g2,g3⟩:=art hT E I C A u L h;exact⟨.skip,undef,w',φ,by simp[execOp,Z],.inr ⟨rfl,rfl⟩,g2,by rw[g3];exact .az .nil⟩
 case range M x=>
  obtain⟨f,C,j⟩:=av.1 (dz j aB);obtain⟨d,I,j⟩:=av.1 j;cases d<;>simp only[reduceCtorEq]at j<;>cases j;exact aoK hT E I (pH D C) h
 case call c=>
  obtain⟨callee,O,ts⟩:=c;have G:=dz j aB;clear j;have ad:jE φ F ρ O.toList:=fun y hy=>D y (by simp[Call.operands];exact .inr (by simpa using hy))
  cases callee with
  |value x=>cases x<;>simp only[]at G<;>exact dead G
  |invoke x m=>cases G
  |builtin bi=>
   obtain⟨J,R,G⟩:=av.1 G;have p:=dz (Option.some.inj G) aB;obtain⟨M,ht,p⟩:=av.1 p;obtain⟨d,I,p⟩:=av.1 p;have Y:=lk ht;have B:=oH R ad
   have W:∀ {q:List V→af→Option (V×af)},(∀ {a b c},q (a::b::c) H=some r→c=[])→(∀ {a},q [a] H≠some r)→q [] H≠some r→q (vals J F) H=some r→
    ∃x y a b,O=#[x,y]∧vals J F=[a,b]∧aJ φ a (ρ x)∧aJ φ b (ρ y):=by
    intro q a2 q1 q0 s;generalize hl:vals J F=l at B s
    obtain⟨m⟩:=O
    match l,s with
    |[],s=>exact absurd s q0
    |[a],s=>exact absurd s q1
    |a::b::c,s=>
     have:=a2 s;subst this
     match m with
     |[]=>cases B
     |[_]=>cases B with|cons _ u=>cases u
     |[x,y]=>cases B with|cons A u=>cases u with|cons L U=>exact⟨x,y,a,b,rfl,rfl,A,L⟩
     |_::_::_::_=>cases B with|cons A u=>cases u with|cons L U=>cases U
   cases bi<;>simp only[reduceCtorEq]at p
   case append=>
    split at p
    ·rename_i e ac;obtain⟨i,hi,p⟩:=av.1 p;obtain⟨z,K,p⟩:=av.1 p;obtain⟨zs,ar,p⟩:=av.1 p;obtain⟨X,p⟩:=cH.1 p;cases z<;>simp only[reduceCtorEq,Option.some.injEq,bP.gB.injEq]at p;obtain⟨rfl,rfl⟩:=p;obtain⟨xt,am,K⟩:=av.1 K;obtain⟨a4,al,K⟩:=av.1 K;obtain⟨x,y,a,b,rfl,Q,A,u⟩:=W (q:=fH i.size i.bytes) (fun{a b c} s=>by cases c with|nil=>rfl|cons=>cases s) (fun s=>by cases s) (fun s=>by cases s) h;rw[Q]at h;rw[beq_eq,gO]at X;refine Ts hT E I hi ar X (hT.bq al) (fun k e=>?_) Y (lk am) A u h;subst e;cases K
    ·cases p
   case copy=>
    split at p
    ·rename_i e ac;obtain⟨n,S,p⟩:=av.1 p;cases p;obtain⟨x,y,a,b,rfl,Q,A,u⟩:=W (q:=ov n) (fun{a b c} s=>by cases c with|nil=>rfl|cons=>cases a<;>cases s) (fun{a} s=>by cases a<;>cases s) (fun s=>by cases s) h;rw[Q]at h;exact UW hT E I S Y A u h
    ·cases p
   all_goals exact dead p
 case makeFunc f _ _=>
  cases f<;>simp only[reduceCtorEq]at j;exact dead j
 all_goals exact dead j
end
section
variable {P:Program}{φ:aG}{H H':af}{w:World}{ρ:Operand→Value}{T:cg}{N:eO}{F F':Fr}{G:Nat}
variable{A:FuncId}
theorem Rr{a:Func}{c:Code}(e:P.funcs[A]? =some a)(d:a.body=some c)(f:(a.name== "runtime.NumGoroutine")=false)(b:Array Value)(w:World):(callFunc A b).run P w=.ok (.enter A b) w:=by
 have g:¬a.name= "runtime.NumGoroutine":=by simpa using f
 simp[callFunc,e,g,d]
def IP(P:Program)(f:FuncId):Prop:=∃a c,P.funcs[f]? =some a∧a.body=some c∧(a.name== "runtime.NumGoroutine")=false
def IM(P:Program)(φ:aG)(w:World)(s:Sem Next)(b:List V):o3→Prop
 |.fn f=>IP P f→∃a,s.run P w=.ok (.enter f ⟨a⟩) w∧bm φ b a
theorem T9(R:∀f,ρ (.func f)=.func (.func f) #[] #[]) (o:Oper) {g:List V→Option (o3×List V)} (d:cop N T o.op=.call t g) (k:jE φ F ρ o.op.operands.toList) {n:o3} (h:g (vals t F)=some (n,b)):
 IM P φ w (execOp ρ o) b n:=by
 obtain⟨E,S,X,U,after,guard⟩:=o;simp only at d k;cases S<;>simp only[cop,reduceCtorEq]at d<;>simp only[Op.operands]at k
 case call c=>
  obtain⟨callee,e,W⟩:=c;have a:=dz d aB;clear d;have M:jE φ F ρ e.toList:=fun y v=>k y (by simp[Call.operands];exact .inr (by simpa using v))
  have B:e.map ρ=⟨e.toList.map ρ⟩:=by apply tw;simp
  cases callee with
  |value x=>
   have O:∀ {i:List (Fr→V)},iE (x::e.toList)=some i→ru (vals i F)=some (n,b)→IM P φ w (execOp ρ ⟨E,.call ⟨.value x,e,W⟩,X,U,after,guard⟩) b n:=by
    intro i j q;have u:=oH j (φ:=φ) (F:=F) (ρ:=ρ) (fun y v=>k y (by simp[Call.operands];simpa using v));generalize vals i F=l at u q
    rw[List.map_cons]at u;cases u with
    |cons z J=>
     generalize Q:ρ x=x' at z
     cases z<;>first|(cases q;done)|skip
     rename_i G as bs C D K L;cases q;rintro⟨H,c,r,p,s⟩;refine⟨C++(e.toList.map ρ++D),?_,?_⟩
     ·simp only[execOp,resolve,Q,Deferred.ofValue,invoke];simp only[cU,fO,dV];rw[Rr r p s];congr 2;apply tw;simp[B]
     ·rw[iP,iP];exact K.append (J.append L)
   cases x<;>simp only[]at a
   case func G=>
    obtain⟨I,Z,a⟩:=av.1 a;obtain⟨i,j,a⟩:=av.1 a;cases A:I.body with
    |none=>
     rw[A]at a;exact dead a
    |some Y=>
     rw[A]at a;cases a;cases h;rintro⟨H,c,r,p,s⟩;refine⟨e.toList.map ρ,?_,oH j M⟩;simp only[execOp,resolve,R,Deferred.ofValue,invoke];simp only[cU,fO,dV];rw[Rr r p s];congr 2;apply tw;simp[B]
   all_goals
    obtain⟨i,j,a⟩:=av.1 a;cases a;exact O j h
  |invoke x m=>cases a
  |builtin bi=>exact dead a
 case makeFunc f _ _=>
  cases f<;>simp only[reduceCtorEq]at d;exact dead d
 all_goals exact dead d
end
theorem nZ{d:Type}{f:d→d→Bool}(e:∀a b,f a b=true→a=b):∀l m,fQ f l m=true→l=m:=by
 intro l;induction l with
 |nil=>intro m h;cases m with
  |nil=>rfl
  |cons=>cases h
 |cons a l g=>intro m h;cases m with
  |nil=>cases h
  |cons b m=>
   have c:and (f a b) (fQ f l m)=true:=h;rw[cu]at c;rw[e a b c.1,g m c.2]
theorem T3{a b:Cap}(h:Eb a b=true):a=b:=by
 cases a<;>cases b<;>first|(cases h;done)|rfl|(rw[(beq_eq _ _).1 h])
theorem It:∀n a b,rX n a b=true→a=b:=by
 intro n;induction n with
 |zero=>intro a b h;cases h
 |succ n d=>
  intro a b h;cases a<;>cases b<;>first|(cases h;done)|skip
  ·rename_i x y;cases x<;>cases y<;>first|rfl|cases h
  ·rename_i k x l y;have c:and (g_ k l) (mH x y)=true:=h;rw[cu,xI,rG,decide_eq_true_eq,decide_eq_true_eq]at c;rw[c.1,c.2]
  ·rename_i x y;rw[nZ (f:=n7) (fun a b h=>by rw[Io]at h;simpa using h) x y h]
  ·rename_i x y z t;have c:and (bn x z) (bn y t)=true:=h;rw[cu,beq_eq,beq_eq]at c;rw[c.1,c.2]
  ·rfl
  ·rename_i p q r s x y z t;have c:and (and (bn p x) (bn q y)) (and (bn r z) (Eb s t))=true:=h;rw[cu,cu,cu,beq_eq,beq_eq,beq_eq]at c;rw[c.1.1,c.1.2,c.2.1,T3 c.2.2]
  ·rfl
  ·rfl
  ·rename_i x y;rw[(beq_eq _ _).1 h]
  ·rfl
  ·rename_i f x y g z t;have c:and (bn f g) (and (fQ (rX n) x z) (fQ (rX n) y t))=true:=h;rw[cu,cu,beq_eq]at c;rw[c.1,nZ d _ _ c.2.1,nZ d _ _ c.2.2]
  ·rfl
  ·rfl
  ·rename_i x y;rw[nZ d _ _ h]
  ·rename_i x y;rw[nZ d _ _ h]
  ·rename_i x y z t;have c:and (bn x z) (fQ (rX n) y t)=true:=h;rw[cu,beq_eq]at c;rw[c.1,nZ d _ _ c.2]
  ·rename_i x y z t;have c:and (fQ (rX n) x z) (bn y t)=true:=h;rw[cu,beq_eq]at c;rw[c.2,nZ d _ _ c.1]
  ·rfl
def Post(φ:aG)(H:af)(w:World)(Q:V→af→Prop)(e:Ending)(c:World):Prop:=∃v a H' b,e=.returned a∧Ext φ H w b H' c∧aJ b v a∧Q v H'
def fk(P:Program)(G:Nat)(t:o3)(b:List V)(H:af)(Q:V→af→Prop):Prop:=match t with
 |.fn f=>IP P f∧∀(φ:aG) (w:World) (a:List Value),Rel φ H w→k9 G φ→bm φ b a→Calls P f ⟨a⟩ w (Post φ H w Q)
variable{I:V→af→Prop}
theorem Post.mono{Q:V→af→Prop}(h:∀v H',Q v H'→I v H'){e:Ending}{b:World}(p:Post o c r Q e b):Post o c r I e b:=
 let⟨v,j,H',k,d,f,g,i⟩:=p;⟨v,j,H',k,d,f,g,h _ _ i⟩
theorem fk.mono{P:Program}{t:o3}{Q:V→af→Prop}(h:∀v H',Q v H'→I v H')(d:fk P a t b c Q):fk P a t b c I:=by
 cases t with
 |fn f=>exact⟨d.1,fun _ _ _ e g i=>(d.2 _ _ _ e g i).mono fun _ _=>Post.mono h⟩
def oO(i:Nat)(l:List Nat):List Nat:=kH (fun j=> !(bn j i)) l
def AH(v:V)(H:af)(Q:V→af→Prop):Prop:=∃b m since left c d a,v=.ptr b 0∧H.get b=.ck (.iter m since left c d)∧H.get m=.ck (.map a)∧
 (∀i k x,a[i]? =some (k,x)→(i∈left∨since≤i)→Q (.az [.bool true,k,x]) (H.set b (.ck (.iter m since (oO i left) (some i) a.length))))∧
 ((∀i∈left,a.length≤i)→Q (.az [.bool false]) H)
def jq(P:Program)(G:Nat)(s:Step)(F:Fr)(H:af)(K:Fr→af→Prop):Prop:=
 (s.want F=some false∧K (put F s.dst V.undef) H)∨(s.want F=some true∧match s.cop with
   |.call d g=>∃t c,g (vals d F)=some (t,c)∧fk P G t c H fun v a=>K (put F s.dst v) a
   |.mN x=>AH (x F) H fun v a=>K (put F s.dst v) a
   |_=>∃b a,exec qI s F H=some (b,a)∧K b a)
def wv(s:Step)(F:Fr)(H:af):Prop:=s.want F=some false∨(s.want F=some true∧∀a g,s.cop=.rd a g→∃v,g (vals a F) H=some v∧∀t,s.dst=some t→aO.lS V.undef (path t) F=v)
theorem Tc{s:Step}(h:again s m c=true):wv s m c:=by
 unfold again at h;cases b:s.want m with
 |none=>rw[b]at h;cases h
 |some j=>
  cases j with
  |false=>exact .inl b
  |true=>
   refine .inr ⟨b,?_⟩;intro d g f;rw[b]at h
   have a:(match s.cop with
    |.rd d g=>Option.casesOn (motive:=fun _=>Bool) (g (vals d m) c) false (fun v=>Option.casesOn (motive:=fun _=>Bool) s.dst true (fun t=>rX 20 v (aO.lS V.undef (path t) m)))
    |_=>true)=true:=h
   rw[f]at a;cases e:g (vals d m) c with
   |none=>simp only[e]at a;cases a
   |some v=>
    refine⟨v,rfl,?_⟩;intro t i;simp only[e,i]at a;exact(It _ _ _ a).symm
def gz(P:Program)(G:Nat):List c3→Fr→af→(Fr→af→Prop)→Prop
 |[],F,H,Q=>Q F H
 |.ex s::l,F,H,Q=>jq P G s F H fun a b=>gz P G l a b Q
 |.re s::l,F,H,Q=>wv s F H∧gz P G l F H Q
variable{e:Fr→af→Prop}
theorem jq.mono{P:Program}{s:Step}{v:Fr→af→Prop}(l:∀m c,e m c→v m c)(p:jq P h s m c e):jq P h s m c v:=by
 rcases p with⟨r,d⟩|⟨r,d⟩
 ·exact .inl ⟨r,l _ _ d⟩
 ·refine .inr ⟨r,?_⟩;cases q:s.cop with
  |call u g=>rw[q]at d;obtain⟨t,w,f,j⟩:=d;exact⟨t,w,f,j.mono fun _ _=>l _ _⟩
  |mN x=>
   rw[q]at d;obtain⟨b,D,since,left,y,C,z,f,j,g3,A,B⟩:=d;exact⟨b,D,since,left,y,C,z,f,j,g3,fun i k x a b=>l _ _ (A i k x a b),fun a=>l _ _ (B a)⟩
  |bad=>rw[q]at d;obtain⟨n,o,f,j⟩:=d;exact⟨n,o,f,l _ _ j⟩
  |pu u g=>rw[q]at d;obtain⟨n,o,f,j⟩:=d;exact⟨n,o,f,l _ _ j⟩
  |rd u g=>rw[q]at d;obtain⟨n,o,f,j⟩:=d;exact⟨n,o,f,l _ _ j⟩
  |gB u g=>rw[q]at d;obtain⟨n,o,f,j⟩:=d;exact⟨n,o,f,l _ _ j⟩
theorem gz.mono{P:Program}{Q:Fr→af→Prop}(h:∀F H,Q F H→e F H):∀ {l:List c3}{F:Fr}{H:af},gz P a l F H Q→gz P a l F H e:=by
 intro l;induction l with
 |nil=>exact fun p=>h _ _ p
 |cons i l b=>
  intro F H p;cases i with
  |ex s=>exact jq.mono (fun _ _=>b) p
  |re s=>exact⟨p.1,b p.2⟩
theorem gz.app{P:Program}:∀ {l c:List c3}{F:Fr}{H:af},gz P a (l++c) F H e↔gz P a l F H fun d f=>gz P a c d f e:=by
 intro l;induction l with
 |nil=>intro c F H;rfl
 |cons i l b=>
  intro c F H;cases i with
  |ex s=>exact⟨jq.mono fun _ _=>b.1,jq.mono fun _ _=>b.2⟩
  |re s=>exact⟨fun p=>⟨p.1,b.1 p.2⟩,fun p=>⟨p.1,b.2 p.2⟩⟩
def fw(ro:Option Nat):Fence:= { Fence.wide with round:=ro }
section
variable {P:Program}{φ:aG}{H H':af}{w:World}{T:cg}{N:eO}{F F':Fr}{G:Nat}{cf:jR}{ro:Option Nat}{nn:Nat}
theorem uf{b:f→Bool}{l:List f}:lW b l=true↔∀x∈l,b x=true:=by
 induction l with
 |nil=>simp[lW]
 |cons a l c=>
  have e:lW b (a::l)=and (b a) (lW b l):=rfl;rw[e,cu,c];simp
theorem GZ(h:uq G a k=true):Qj G a k:=by
 cases k with
 |tmp t=>exact(eZ _ _).1 h
 |global g=>exact(eZ _ _).1 h
 |_=>trivial
variable{Y:Oper}
theorem anV{a:Act}(h:nx G a.tmps.size Y=true)(b:jF φ F a.tmps)(d:k9 G φ):jE φ F a.eval Y.op.operands.toList:=by
 unfold nx at h;rw[cu]at h;intro x e f c;exact Qk b d (GZ (uf.1 h.2 x e)) c
theorem Sz{d:Array Oper}{a:Act}(o:Oper)(f:mc d.toList o.guard F=some p)(v:∀j b t,o.guard=some (j,b)→tS d.toList j=some t→t<a.tmps.size∧aJ φ (F.get V.undef t) (a.tmps.getD t undef)):
 Region.wanted o (yielded d a.tmps)=p:=by
 unfold mc at f;unfold Region.wanted;cases m:o.guard with
 |none=>
  rw[m]at f;cases f;rfl
 |some s=>
  obtain⟨j,b⟩:=s;rw[m]at f
  have c:Option.casesOn (motive:=fun _=>Fr→Option Bool) (tS d.toList j) (fun _=>some false)
   (fun t F=>nj b (aO.lS V.undef (path t) F)) F=some p:=f
  clear f;have i:=v j b;simp only[tS,gF]at c i;unfold yielded;cases h:d[j]? with
  |none=>
   have:d.toList[j]? =none:=by simpa using h
   rw[this]at c;cases c;simp[h]
  |some q=>
   have w:d.toList[j]? =some q:=by simpa using h
   rw[w]at c i;simp only[ao]at c i;cases g:q.dst with
   |none=>
    rw[g]at c;cases c;simp[h,g]
   |some t=>
    rw[g]at c;obtain⟨n,k⟩:=i t m g;have e:a.tmps.getD t undef=a.tmps[t]:=by simp[n]
    have r:a.tmps[t]? =some a.tmps[t]:=by simp[n]
    rw[e]at k;simp only[h,Option.bind_some,g,r];have l:nj b (F.get V.undef t)=some p:=c;generalize F.get V.undef t=u at k l
    generalize a.tmps[t]=y at k
    cases k<;>first|(cases l;done)|(cases l;rfl)|skip
    rename_i x;cases l;cases x<;>cases b<;>rfl
theorem arK{c:Array Oper}{a:Act}(h:∀o∈c.toList,GU a.tmps.size o.dst=true)(k:jF φ F a.tmps)(o:Oper)(l:mc c.toList o.guard F=some p):Region.wanted o (yielded c a.tmps)=p:=by
 refine Sz (φ:=φ) o l (fun j b t _ g=>?_);obtain⟨m,d,i⟩:=av.1 (show ao (cK c.toList j) (fun o=>o.dst)=some t from g);rw[gF]at d;have e:=h m (eT d);rw[i]at e;have f:t<a.tmps.size:=(eZ _ _).1 e;exact⟨f,k t f⟩
theorem z1(a:Act)(d:Option Nat)(v:Value):(a.put d v).tmps.size=a.tmps.size:=by cases d<;>simp[Act.put]
theorem put_defers(a:Act)(d:Option Nat)(v:Value):(a.put d v).defers=a.defers:=by cases d<;>rfl
variable{A:FuncId}
theorem T_{a:Array Value}{R:Ending→World→Prop}(h:Calls P A a w R):CallsIn (fw ro) nn P A a w R:=by
 have c:=(callsIn_wide (n:=nn)).2 h;exact⟨trivial,fun b d=>c.2 b (room_wide _)⟩
theorem anL{b:Op}{x:Fr→V}(a:cop N T b=.mN x):∃y,b=.next y false∧hD y=some x:=by
 cases b<;>simp only[cop,reduceCtorEq]at a
 case next y d=>
  obtain⟨f,c,a⟩:=av.1 (dz a aB);cases d<;>cases a;exact⟨y,rfl,c⟩
 case makeFunc f _ _=>
  cases f<;>simp only[reduceCtorEq]at a;exact dead a
 all_goals exact dead a
theorem vO{a:Op}(h:cop N T a≠ .bad):∀c,a≠ .defer c:=by
 rintro c rfl;exact h rfl
variable{u:Nat}{d:List Nat}
theorem PG:u∈oO h d↔u∈d∧u≠h:=by
 unfold oO;induction d with
 |nil=>simp[kH]
 |cons a d f=>
  have e:kH (fun u=> !(bn u h)) (a::d)=Bool.casesOn (motive:=fun _=>List Nat) (!(bn a h)) (kH (fun u=> !(bn u h)) d) (a::kH (fun u=> !(bn u h)) d):=rfl;rw[e];by_cases c:a=h
  ·subst c;have:bn a a=true:=(beq_eq _ _).2 rfl;simp only[this,gG,f,g7];constructor
   ·rintro⟨h1,b⟩;exact⟨.inr h1,b⟩
   ·rintro⟨h1|h1,b⟩
    ·exact absurd h1 b
    ·exact⟨h1,b⟩
  ·have:bn a h=false:=mY.2 (fun e=>c ((beq_eq _ _).1 e));simp only[this,iY,g7,f];constructor
   ·rintro(h1|⟨h1,b⟩)
    ·exact⟨.inl h1,h1▸c⟩
    ·exact⟨.inr h1,b⟩
   ·rintro⟨h1|h1,b⟩
    ·exact .inl h1
    ·exact .inr ⟨h1,b⟩
theorem N6(b:q7 φ O S){e:MapEntry}(h:e∈S):∃i k v,O[i]? =some (k,v)∧e.born=i∧aJ φ k e.key∧aJ φ v e.val:=by
 obtain⟨i,hi,rfl⟩:=List.mem_iff_getElem.1 h;have j:i<O.length:=by rw[←b.1];exact hi
 have c:O[i]? =some (O[i].1,O[i].2):=cn j;obtain⟨x,a,d,f,g⟩:=b.2 i _ _ c;rw[cn hi]at a;cases a;exact⟨i,_,_,c,g,d,f⟩
variable{L:Nat}
theorem anq(F:Rel φ H w){p:Value}(hp:aJ φ (.ptr a 0) p){since:Nat}{left:List Nat}(g:H.get a=.ck (.iter u since left i L))(C:H.get u=.ck (.map O))(ty:TypeId):
 ∃v v' H' w',(Instr.next p false ty).run P w=.ok v' w'∧Ext φ H w φ H' w'∧aJ φ v v'∧((∃b k x,O[b]? =some (k,x)∧(b∈left∨since≤b)∧v=.az [.bool true,k,x]∧H'=H.set a (.ck (.iter u since (oO b left) (some b) O.length)))∨
  ((∀b∈left,O.length≤b)∧v=.az [.bool false]∧H'=H)):=by
 cases hp with
 |ptr D=>
 rename_i l;obtain⟨a6,o,seen,M,N,g3,cb,Q,R⟩:=F.ck D g;obtain⟨_,n,g4,q⟩:=F.ck M C;have ba:=uC (P:=P) N rfl;have bb:=uC (P:=P) g4 rfl;have a8:(!(⟨seen⟩:Array Nat).isEmpty&& !(⟨n⟩:Array MapEntry).isEmpty&&(⟨n⟩:Array MapEntry).all (fun e=>decide (e.born≥L)))=false:=by
  cases seen with
  |nil=>simp
  |cons cd ss=>
   have hl:=g3 aB;cases n with
   |nil=>simp
   |cons e0 ca=>
    obtain⟨b,k,v,A,B,_⟩:=N6 q (e:=e0) aB;have h0:=q.1;cases O with
    |nil=>simp at h0
    |cons x0 xr=>
     obtain⟨k0,v0⟩:=x0;obtain⟨y,z,_,_,K⟩:=q.2 0 k0 v0 aB;simp at z;subst z;simp[K];intro hh;omega
 let I:=(⟨n⟩:Array MapEntry).filter fun e=> !(⟨seen⟩:Array Nat).contains e.born
 let d:=I.filter (fun e=>decide (e.born<since));let t:=I.filter (fun e=>decide (e.born≥since));let f:Array (Option MapEntry):=(if d.isEmpty then #[none]else #[])++(d++t).map some;have T:0<f.size:=by
  show 0<((if d.isEmpty then #[none]else #[])++(d++t).map some:Array (Option MapEntry)).size;by_cases h:d.isEmpty
  ·simp[h];omega
  ·have:0<d.size:=by
    rcases so d.size with e|e
    ·exact absurd (by simpa [Array.isEmpty]using e) h
    ·exact e
   simp;omega
 obtain⟨j,J,r,bv,a7⟩:∃j J,j<f.size∧(∃k,J= { w with drawn:=w.drawn+k })∧(choose (.mapNext f.size)).run P w=.ok j J:=by
  by_cases X:(Question.mapNext f.size).forced=true
  ·exact⟨0,w,T,⟨0,rfl⟩,by rw[run_choose_drew,ak X]⟩
  ·exact⟨_,w.drew,eU _ T,⟨1,rfl⟩,by rw[run_choose_drew,aj X];rfl⟩
 obtain⟨s,rfl⟩:=bv;have G:=F.drew s;have W:Ext φ H w φ H { w with drawn:=w.drawn+s }:=⟨G,aG.le_refl φ,fun e1 e2=>absurd (e1.symm.trans e2) aB,fun _ _ _=>rfl,aE _,fun _ _=>rfl,aE _,⟨rfl,rfl,rfl,fun h=>h,fun _ cs _ _ h=>⟨cs,h,rfl⟩⟩,fun _ h=>⟨h,rfl⟩,fun _ _ e=>.inl e⟩;obtain⟨m,S⟩:∃m,f[j]? =some m:=⟨f[j],by simp[r]⟩
 have Y:(Instr.next (.pointer (some ⟨l.c,l.base+0,none⟩)) false ty).run P w=(match(some m:Option (Option MapEntry))with
  |some (some e)=>(do setObj l.c (.mapIter (some o.c) since ((⟨seen⟩:Array Nat).push e.born) O.length);pure (.tuple #[.bool true,e.key,e.val]):Sem Value)
  |some none=>(pure (.tuple #[.bool false]):Sem Value)
  |none=>stuck "Next: no such candidate").run P { w with drawn:=w.drawn+s }:=by
  simp only[Instr.next,a6,cE,cU,ba,dV,bb,a8,ie,if_false]
  show((choose (.mapNext f.size)).run P w).andThen _=_;rw[a7];simp only[dV]
  show(match f[j]? with
   |some (some e)=>(do setObj l.c (.mapIter (some o.c) since ((⟨seen⟩:Array Nat).push e.born) O.length);pure (.tuple #[.bool true,e.key,e.val]):Sem Value)
   |some none=>(pure (.tuple #[.bool false]):Sem Value)
   |none=>stuck "Next: no such candidate").run P { w with drawn:=w.drawn+s }=_
  rw[S]
 have a9:m∈f:=Array.mem_of_getElem? S;have U:m∈((if d.isEmpty then #[none]else #[])++(d++t).map some:Array (Option MapEntry)):=a9;cases m with
 |none=>
  have bj:d.isEmpty=true:=by
   by_cases h:d.isEmpty
   ·exact h
   ·simp[h]at U
  refine⟨.az [.bool false],.tuple #[.bool false],H,_,?_,W,.az (.cons (.bool false) .nil),.inr ⟨?_,rfl,rfl⟩⟩
  ·rw[Y];simp
  ·intro b be;obtain⟨bc,E⟩:=R b be;refine jC fun bd=>?_
   obtain⟨x,z,_,_,K⟩:=q.2 b O[b].1 O[b].2 (cn bd);have hx:x∈d:=by
    have b0:x∈n:=eT z;show x∈(Array.filter _ (Array.filter _ ⟨n⟩));simp[b0,K,E,bc]
   have:d=#[]:=by simpa using bj
   rw[this]at hx;simp at hx
 |some e=>
  have a':e∈I:=by
   have g:e∈d∨e∈t:=by
    rcases Array.mem_append.1 U with h|h
    ·split at h<;>simp at h
    ·simpa using h
   rcases g with h|h
   ·exact(Array.mem_filter.1 h).1
   ·exact(Array.mem_filter.1 h).1
  have V:=Array.mem_filter.1 a';obtain⟨b,k,v,A,B,f3,f4⟩:=N6 q (e:=e) (by simpa using V.1);have E:b∉seen:=by
   have:=V.2;simp[B]at this;exact this
  have a1:({ w with drawn:=w.drawn+s }:World).heap[l.c]? =some (.mapIter (some o.c) since ⟨seen⟩ L):=N;have bs:=HL (P:=P) (o':=.mapIter (some o.c) since ((⟨seen⟩:Array Nat).push e.born) O.length) a1 rfl;refine⟨.az [.bool true,k,v],.tuple #[.bool true,e.key,e.val],_,_,?_,W.trans (FI G D g (o':=.iter u since (oO b left) (some b) O.length) (x:=.mapIter (some o.c) since ((⟨seen⟩:Array Nat).push e.born) O.length) ?_),.az (.cons (.bool true) (.cons f3 (.cons f4 .nil))),.inl ⟨b,k,v,A,(if Z:b<since then .inl (Q b Z E)else .inr (jC Z)),rfl,rfl⟩⟩
  ·rw[Y];simp only[cU,bs,dV,fO]
  ·refine⟨o,seen++[b],M,?_,fun _=>?_,aB,?_,?_⟩
   ·rw[Hh (G.loc D),B];simp
   ·have:=(fN.1 A).1;omega
   ·intro j r bi;have g:j∉seen∧j≠b:=by simpa using bi
    exact PG.2 ⟨Q j r g.1,g.2⟩
   ·intro j r;obtain⟨g,C⟩:=PG.1 r;obtain⟨h3,h4⟩:=R j g;exact⟨h3,by simp[h4,C]⟩
variable{J:Exit→Act→World→Prop}
theorem R2{D:Array Oper}(hi:D[h]? =some Y)(hT:cR P T)(b7:jU P N){a:Act}
 (O:jE φ F a.eval Y.op.operands.toList) (ad:∀ {wb:Bool},(stepOf N T D.toList Y).want F=some wb→Region.wanted Y (yielded D a.tmps)=wb) (z:Rel φ H w) (hg:k9 G φ) (i:jq P G (stepOf N T D.toList Y) F H e) {K:Act→World→Prop}
 (q:∀ {v:V}{s:Value}{S:aG}{E:World}{H':af},Ext φ H w S H' E→aJ S v s→e (put F Y.dst v) H'→K (a.put Y.dst s) E):wpOpIn (fw ro) nn P D J h K a w:=by
 have al:∀f,a.eval (.func f)=.func (.func f) #[] #[]:=fun f=>rfl
 unfold wpOpIn;simp only[hi];rcases i with⟨A,i⟩|⟨A,i⟩
 ·have A:=ad A;simp only[A,ie,if_false];exact⟨fun _ _=>trivial,q (Ext.refl z) (.az .nil) i⟩
 ·have be:=A;have A:=ad A;simp only[A,if_true];refine⟨fun _ _=>trivial,?_⟩;have bd:(stepOf N T D.toList Y).cop=cop N T Y.op:=rfl
  have R:∀ {C:Fr}{o:af},exec qI (stepOf N T D.toList Y) F H=some (C,o)→(match cop N T Y.op with
   |.bad=>aM
   |.pu l g=>ao (g (vals l F)) fun r=>aY.casesOn (motive:=fun _=>Option (Fr×af)) r (fun v=>some (put F Y.dst v,H)) (fun cs sh=>some (put F Y.dst (sh.mk H.next),H.push (.cells cs 0)))
   |.rd l g=>ao (g (vals l F) H) fun v=>some (put F Y.dst v,H)
   |.gB l g=>ao (g (vals l F) H) fun r=>some (put F Y.dst r.1,r.2)
   |.call l g=>ao (g (vals l F)) fun c=>ao (qI c.1 c.2 H) fun r=>some (put F Y.dst r.1,r.2)
   |.mN _=>aM)=some (C,o):=by
    intro C o M;unfold exec at M;rw[be]at M;exact M
  rw[bd]at i;cases d:cop N T Y.op with
  |bad=>
   rw[d]at i;obtain⟨C,o,j,_⟩:=i;have:=R j;rw[d]at this;cases this
  |pu l g=>
   rw[Oper.semAt_eq _ _ _ (vO (N:=N) (T:=T) (by rw[d];simp))];rw[d]at i;obtain⟨C,o,B,n⟩:=i;have u:=R B;clear B;rw[d]at u;obtain⟨r,Q,L⟩:=av.1 u;have hp:=Qz hT b7 al Y d O Q w;cases r with
   |val v=>
    obtain⟨s,j,p⟩:=hp;cases L;rw[j];exact q (Ext.refl z) p n
   |new cd sh=>
    obtain⟨s,E,cb,j,p,I⟩:=hp;cases L;rw[j];exact q (agL z p) (I _ _ (aG.tO _ _ _)) n
  |rd l g=>
   rw[Oper.semAt_eq _ _ _ (vO (N:=N) (T:=T) (by rw[d];simp))];rw[d]at i;obtain⟨C,o,B,n⟩:=i;have u:=R B;clear B;rw[d]at u;obtain⟨v,Q,L⟩:=av.1 u;cases L;obtain⟨s,j,p⟩:=QZ hT z Y d O Q;rw[j];exact q (Ext.refl z) p n
  |gB l g=>
   rw[Oper.semAt_eq _ _ _ (vO (N:=N) (T:=T) (by rw[d];simp))];rw[d]at i;obtain⟨C,o,B,n⟩:=i;have u:=R B;clear B;rw[d]at u;obtain⟨r,Q,L⟩:=av.1 u;cases L;obtain⟨b8,s,E,S,j,p,I,Z⟩:=agm hT z Y d O Q;rw[j];rcases p with rfl|⟨rfl,rfl⟩
   ·exact q I Z n
   ·exact q I Z n
  |call l g=>
   rw[Oper.semAt_eq _ _ _ (vO (N:=N) (T:=T) (by rw[d];simp))];rw[d]at i;obtain⟨t,bv,j,n⟩:=i;have ba:=T9 (P:=P) (w:=w) al Y d O j;cases t with
   |fn f=>
    obtain⟨b0,p,I⟩:=ba n.1;rw[p];refine⟨fun M=>by simp[fw,Fence.wide]at M,T_ ((n.2 _ _ _ z hg I).mono ?_)⟩;rintro b2 E ⟨v,s,o,S,rfl,h6,h7,h8⟩;exact q h6 h7 h8
  |mN x=>
   rw[Oper.semAt_eq _ _ _ (vO (N:=N) (T:=T) (by rw[d];simp))];rw[d]at i;obtain⟨b,m,since,left,b1,ca,es,g1,g2,g3,g4,a7⟩:=i;obtain⟨y,hy,bi⟩:=anL d;obtain⟨a0,ce,ty,bo,after,guard⟩:=Y;simp only at hy;subst hy;have hv:=O y (by simp[Op.operands]) x bi;rw[g1]at hv;obtain⟨v,s,o,E,f1,W,X,f4⟩:=anq (P:=P) z hv g2 g3 ty;have bc:(execOp a.eval ⟨a0,.next y false,ty,bo,after,guard⟩).run P w=.ok (.value s) E:=by
    simp only[execOp,cU,f1,dV,fO]
   rw[bc];rcases f4 with⟨i',k,x',U,e2,rfl,rfl⟩|⟨U,rfl,rfl⟩
   ·exact q W X (g4 i' k x' U e2)
   ·exact q W X (a7 U)
theorem aqz{b:Array Oper}(hi:b[h]? =some Y)(hT:cR P T)(b7:jU P N){a:Act}
 (l:∀Y∈b.toList,nx G a.tmps.size Y=true) (t:Rel φ H w) (i:jF φ F a.tmps) (k:k9 G φ) (q:jq P G (stepOf N T b.toList Y) F H e) {K:Act→World→Prop}
 (p:∀f c d F' H',Ext φ H w f H' d→jF f F' c.tmps→c.tmps.size=a.tmps.size→c.defers=a.defers→e F' H'→K c d):wpOpIn (fw ro) nn P b J h K a w:=by
 have r:Y∈b.toList:=eT (by simpa using hi);have s:=anV (l Y r) i k;have u:∀ {m:Bool},(stepOf N T b.toList Y).want F=some m→Region.wanted Y (yielded b a.tmps)=m:=fun g=>arK (fun Y g=>by have:=l Y g;unfold nx at this;rw[cu]at this;exact this.1) i Y g
 refine R2 hi hT b7 s u t k q ?_;intro v x f d H' j n o;exact p f _ d _ H' j ((i.mono j.le).put n) (z1 _ _ _) (put_defers _ _ _) o
theorem an_{c:Array Oper}{Q:Exit→Act→World→Prop}(hT:cR P T)(b7:jU P N)(M:∀o∈c.toList,nx G h o=true):
 ∀(l:List Oper) (k:Nat) (φ:aG) (F:Fr) (H:af) (a:Act) (w:World),(∀(j:Nat) (o:Oper),l[j]? =some o→c[k+j]? =some o)→a.tmps.size=h→Rel φ H w→jF φ F a.tmps→k9 G φ→
  gz P G (lmap (fun o=>c3.ex (stepOf N T c.toList o)) l) F H e→
  (∀g b f F' H',Ext φ H w g H' f→jF g F' b.tmps→b.tmps.size=h→b.defers=a.defers→e F' H'→Q .normal b f)→wpOpsIn (fw ro) nn P c Q (tE k l.length) a w:=by
 intro l;induction l with
 |nil=>
  intro k φ F H a w _ d t r s p q;exact q φ a w F H (Ext.refl t) r d rfl p
 |cons o l O=>
  intro k φ F H a w hl d t r s p q;have K:jq P G (stepOf N T c.toList o) F H fun i m=>gz P G (lmap (fun o=>c3.ex (stepOf N T c.toList o)) l) i m e:=p
  rw[cL,List.range'_succ,wpOpsIn_cons];refine aqz (hl 0 o aB) hT b7 (by rw[d];exact M) t r s K ?_;intro g b f i m n y z A B;refine O (k+1) g i m b f (fun j R L=>by have:=hl (j+1) R (by simpa using L);rwa[(aa:k+(j+1)=k+1+j)]at this) (z.trans d) n.rel y (s.mono n.le) B ?_;intro U x S u v C D E I J;exact q U x S u v (n.trans C) D E (I.trans A) J
end
theorem zp(m i:Nat):iB m i=m.testBit i:=by
 unfold iB;rw[Nat.testBit_eq_decide_div_mod_eq,Bool.eq_iff_iff,beq_eq];have:Nat.shiftRight m i=m/2^i:=Nat.shiftRight_eq_div_pow m i;rw[this];simp;exact Iff.rfl
theorem aij(a b i:Nat):iB (Nat.lor a b) i=true↔iB a i=true∨iB b i=true:=by
 have e:Nat.lor a b=a|||b:=rfl
 rw[zp,zp,zp,e,Nat.testBit_or,r3]
theorem aik(k i:Nat):iB (Nat.shiftLeft 1 k) i=true↔k=i:=by
 have e:Nat.shiftLeft 1 k=2^k:=Nat.one_shiftLeft k;rw[zp,e,Nat.testBit_two_pow];simp
theorem OF(i:Nat):iB 0 i=false:=by rw[zp];simp
theorem amP(b:List Nat)(c:List Edge)(j:Nat):iB (qG b c) j=true↔∃e∈c,kA e=true∧(e.on=j∨iB (rK 0 b e.on) j=true):=by
 induction c with
 |nil=>
  have:qG b []=0:=rfl;rw[this,OF];simp
 |cons e c g=>
  have h:qG b (e::c)=Bool.casesOn (motive:=fun _=>Nat) (kA e) (qG b c) (Nat.lor (qG b c) (Nat.lor (Nat.shiftLeft 1 e.on) (rK 0 b e.on))):=rfl;rw[h];cases d:kA e with
  |false=>
   simp only[g,g7];constructor
   ·rintro⟨x,h1,a⟩;exact⟨x,.inr h1,a⟩
   ·rintro⟨x,h1|h1,a⟩
    ·subst h1;rw[d]at a;cases a.1
    ·exact⟨x,h1,a⟩
  |true=>
   simp only[aij,aik,g,g7];constructor
   ·rintro(⟨x,h1,a⟩|h1|h1)
    ·exact⟨x,.inr h1,a⟩
    ·exact⟨e,.inl rfl,d,.inl h1⟩
    ·exact⟨e,.inl rfl,d,.inr h1⟩
   ·rintro⟨x,h1|h1,a,f⟩
    ·subst h1;exact .inr f
    ·exact .inl ⟨x,h1,a,f⟩
theorem amQ:∀(ops:List Oper) (a:List Nat),(masks ops a).length=a.length+ops.length∧(∀i,i<a.length→(masks ops a)[i]? =a[i]?)∧
 ∀(j:Nat) (o:Oper),ops[j]? =some o→(masks ops a)[a.length+j]? =some (qG ((masks ops a).take (a.length+j)) o.after.toList):=by
 intro ops;induction ops with
 |nil=>
  intro a;have e:masks [] a=a:=rfl;rw[e];exact⟨aB,fun _ _=>rfl,fun j o h=>by simp at h⟩
 |cons o ops k=>
  intro a;have e:masks (o::ops) a=masks ops (cW a [qG a o.after.toList]):=rfl;rw[e,iP];obtain⟨d,b,f⟩:=k (a++[qG a o.after.toList]);have hl:(a++[qG a o.after.toList]).length=a.length+1:=aB;rw[hl]at d b f;refine⟨by simp[d];omega,fun i hi=>by rw[b i aa,lJ hi],fun j l c=>?_⟩;cases j with
  |zero=>
   simp at c;subst c;have g:(masks ops (a++[qG a o.after.toList])).take (a.length+0)=a:=by
    apply si;intro i;by_cases hi:i<a.length
    ·rw[wH aa,b i aa,lJ hi]
    ·rw[kO (by simp;omega),kO aa]
   rw[g,cE,b _ aa];simp
  |succ j=>
   have:=f j l (by simpa using c);rw[(aa:a.length+(j+1)=a.length+1+j)];exact this
def maskAt(ops:List Oper)(i:Nat):Nat:=rK 0 (masks ops []) i
def Pred(ops:List Oper)(i j:Nat):Prop:=iB (maskAt ops i) j=true
theorem agi:∀ {ops:List Oper}{k:Nat},mD ops k=true→∀(j:Nat) (o:Oper),ops[j]? =some o→∀e∈o.after.toList,kA e=true→e.on<k+j:=by
 intro ops;induction ops with
 |nil=>intro k _ j o h;simp at h
 |cons o ops f=>
  intro k h j g b e d c;have a:and (lW (fun e=>or (!(kA e)) (bM (Nat.succ e.on) k)) o.after.toList) (mD ops (k+1))=true:=h;rw[cu]at a;cases j with
  |zero=>
   simp at b;subst b;have:=uf.1 a.1 e d;rw[c]at this;have i:=(eZ _ _).1 (show bM (Nat.succ e.on) k=true by simpa using this);omega
  |succ j=>
   have:=f a.2 j g (by simpa using b) e d c;omega
section
variable {ops:List Oper} (hE:mD ops 0=true)
include hE
theorem xu{i:Nat}{o:Oper}(hi:ops[i]? =some o){e:Edge}(b:e∈o.after.toList)(a:kA e=true):e.on<i:=by
 have:=agi hE i o hi e b a;omega
theorem Cq:Pred ops a h↔∃o,ops[a]? =some o∧∃e∈o.after.toList,kA e=true∧(e.on=h∨Pred ops e.on h):=by
 obtain⟨i,j,g⟩:=amQ ops [];simp only[kP,dK]at i g;unfold Pred maskAt;rw[vI];cases hi:ops[a]? with
 |none=>
  have:(masks ops [])[a]? =none:=by
   rw[List.getElem?_eq_none_iff]at hi⊢;omega
  rw[this];simp[OF]
 |some o=>
  rw[g a o hi];simp only[Option.getD_some,amP,Option.some.injEq,exists_eq_left'];constructor
  ·rintro⟨e,d,c,b⟩;have f:=xu hE hi d c;refine⟨e,d,c,b.imp id (fun b=>?_)⟩;rw[vI,wH f]at b;rw[vI];exact b
  ·rintro⟨e,d,c,b⟩;have f:=xu hE hi d c;refine⟨e,d,c,b.imp id (fun b=>?_)⟩;rw[vI,wH f];rw[vI]at b;exact b
theorem pred_lt:∀ {i j:Nat},Pred ops i j→j<i:=by
 intro i;induction i using jD with
 |_ i d=>
  intro j h;obtain⟨o,hi,e,b,a,h⟩:=(Cq hE).1 h;have c:=xu hE hi b a;rcases h with h|h
  ·omega
  ·have:=d _ c h;omega
theorem Hf:∀ {i j k:Nat},Pred ops i j→Pred ops j k→Pred ops i k:=by
 intro i;induction i using jD with
 |_ i f=>
  intro j k h a;obtain⟨o,hi,e,c,b,h⟩:=(Cq hE).1 h;have d:=xu hE hi c b;refine(Cq hE).2 ⟨o,hi,e,c,b,.inr ?_⟩;rcases h with h|h
  ·rw[h];exact a
  ·exact f _ d h a
def Dl(ops:List Oper)(L:Nat→Prop):Prop:=∀i o,L i→ops[i]? =some o→∀e∈o.after.toList,kA e=true→L e.on
omit hE in
theorem Ei(hE:mD ops 0=true){L:Nat→Prop}(d:Dl ops L):∀ {i j:Nat},(∀o,ops[i]? =some o→∀e∈o.after.toList,kA e=true→L e.on)→Pred ops i j→L j:=by
 intro i;induction i using jD with
 |_ i n=>
  intro j m h;obtain⟨o,hi,e,b,a,h⟩:=(Cq hE).1 h;have k:=xu hE hi b a;have hl:=m o hi e b a;rcases h with h|h
  ·rw[←h];exact hl
  ·exact n _ k (fun p l c g f=>d _ p hl l c g f) h
end
section
variable {N:eO}{T:cg}
theorem anT{c:Fr}:∀ {l:List Operand}{b:List (Fr→V)},iE l=some b→(∀t,Operand.tmp t∈l→c.get V.undef t=m.get V.undef t)→vals b c=vals b m:=by
 intro l;induction l with
 |nil=>intro b h _;cases h;rfl
 |cons x l j=>
  intro b h d;obtain⟨f,a,h⟩:=av.1 (show ao (hD x) (fun f=>ao (iE l) fun r=>some (f::r))=some b from h);obtain⟨r,i,h⟩:=av.1 h;cases h;have e:f c=f m:=by
   cases x with
   |tmp t=>cases a;exact d t aB
   |const v=>
    obtain⟨y,k,a⟩:=av.1 (show ao (mU 20 v) (fun y=>some (fun _=>y))=some f from a);cases a;rfl
   |global g=>cases a;rfl
   |func g=>cases a;rfl
  show f c::vals r c=f m::vals r m;rw[e,j i (fun t h=>d t (by simp[h]))]
theorem vS{f:Fr→V}(h:hD k=some f):iE [k]=some [f]:=by
 show ao (hD k) _=_;rw[h];rfl
def Looks(a:Op)(b:List (Fr→V)):Prop:=∃l,iE l=some b∧∀x∈l,x∈a.operands.toList
variable{C:List V→Option aY}
theorem TE{b:BinOp}{a:List (Fr→V)}(h:u_ T b g t=.pu a C):a=t:=by
 unfold u_ at h;split at h<;>(try split at h)<;>(try split at h)<;>first|(cases h;done)|(cases h;rfl)
theorem UR{d:TypeId}{a:List (Fr→V)}(h:qm T g d t=.pu a C):a=t:=by
 unfold qm at h;split at h<;>(try split at h)<;>first|(cases h;done)|(cases h;rfl)
theorem TR{b:Builtin}{e:List TypeId}{c:List (Fr→V)}(h:y4 T b e t=.pu c C):c=t:=by
 have a:=dz h aB;obtain⟨j,g,a⟩:=av.1 a;obtain⟨d,f,a⟩:=av.1 a;cases b<;>simp only[reduceCtorEq]at a
 case append=>
  split at a
  ·obtain⟨i,_,a⟩:=av.1 a;obtain⟨z,_,a⟩:=av.1 a;obtain⟨k,_,a⟩:=av.1 a;obtain⟨_,a⟩:=cH.1 a;cases z
   ·cases a
   ·cases a;rfl
  ·cases a
 case copy=>
  split at a
  ·obtain⟨s,_,a⟩:=av.1 a;cases a
  ·cases a
 case cap=>split at a<;>cases a;rfl
 case len=>split at a<;>first|(cases a;done)|(cases a;rfl)
 case max=>cases a;rfl
 case min=>cases a;rfl
theorem xX{r:Op}(a:cop N T r=.pu t C):Looks r t:=by
 cases r<;>simp only[cop,reduceCtorEq]at a
 case move x|box j x|nilCheck x|extract x i=>
  obtain⟨f,e,a⟩:=av.1 (dz a aB);cases a;exact⟨_,vS e,by simp[Op.operands]⟩
 case pick c x y=>
  obtain⟨k,e,a⟩:=av.1 (dz a aB);cases a;exact⟨_,e,by simp[Op.operands]⟩
 case alloc j=>
  obtain⟨A,w,a⟩:=av.1 (dz a aB);cases a;exact⟨[],rfl,aB⟩
 case build j parts=>
  have h:=dz a aB;obtain⟨A,w,h⟩:=av.1 h;obtain⟨d,o,h⟩:=av.1 h;split at h
  ·obtain⟨R,P,h⟩:=av.1 h;obtain⟨q,u,h⟩:=av.1 h;cases h;exact⟨_,(xW u).2.2,by simp[Op.operands]⟩
  ·obtain⟨s,v,h⟩:=av.1 h;obtain⟨q,u,h⟩:=av.1 h;cases h;exact⟨_,(xW u).2.2,by simp[Op.operands]⟩
  ·cases h
 case buildSlice j n parts=>
  have h:=dz a aB;obtain⟨d,o,h⟩:=av.1 h;split at h
  ·obtain⟨s,v,h⟩:=av.1 h;obtain⟨L,h⟩:=cH.1 h;obtain⟨A,w,h⟩:=av.1 h;obtain⟨q,u,h⟩:=av.1 h;obtain⟨Q,h⟩:=cH.1 h;cases h;exact⟨_,(xW u).2.2,by simp[Op.operands]⟩
  ·cases h
 case binOp r j x y S=>
  obtain⟨k,e,a⟩:=av.1 (dz a aB);rw[TE (Option.some.inj a)];exact⟨_,e,by simp[Op.operands]⟩
 case unOp r j x=>
  obtain⟨f,e,a⟩:=av.1 (dz a aB);cases r<;>simp only[reduceCtorEq]at a
  all_goals
   cases a;exact⟨_,vS e,by simp[Op.operands]⟩
 case convert s d x=>
  obtain⟨f,e,a⟩:=av.1 (dz a aB);rw[UR (Option.some.inj a)];exact⟨_,vS e,by simp[Op.operands]⟩
 case makeFunc z first captured=>
  cases z<;>simp only[reduceCtorEq]at a;obtain⟨k,e,a⟩:=av.1 (dz a aB);cases a;exact⟨_,e,by rw[iP];simp[Op.operands]⟩
 case makeSlice j l c=>
  obtain⟨k,e,a⟩:=av.1 (dz a aB);obtain⟨d,o,a⟩:=av.1 a;split at a
  ·obtain⟨i,hi,a⟩:=av.1 a;obtain⟨A,w,a⟩:=av.1 a;obtain⟨v,a⟩:=cH.1 a;cases a;exact⟨_,e,by simp[Op.operands]⟩
  ·cases a
 case slice j x lo hi mx=>
  obtain⟨k,e,a⟩:=av.1 (dz a aB);obtain⟨d,o,a⟩:=av.1 a;have hl:∀y∈x::cW (j4 lo) (cW (j4 hi) (j4 mx)),y∈(Op.slice j x lo hi mx).operands.toList:=by
   cases lo<;>cases hi<;>cases mx<;>simp[Op.operands,j4,iP]
  split at a
  ·cases a;exact⟨_,e,hl⟩
  ·obtain⟨s,v,a⟩:=av.1 a;cases a;exact⟨_,e,hl⟩
  ·obtain⟨s,v,a⟩:=av.1 a;cases a;exact⟨_,e,hl⟩
  ·cases a
 case fieldAddr s x f=>
  obtain⟨p,e,a⟩:=av.1 (dz a aB);obtain⟨d,o,a⟩:=av.1 a;split at a
  ·obtain⟨G,I,a⟩:=av.1 a;obtain⟨n,M,a⟩:=av.1 a;obtain⟨w,a⟩:=cH.1 a;cases a;exact⟨_,vS e,by simp[Op.operands]⟩
  ·cases a
 case indexAddr j x i=>
  obtain⟨k,e,a⟩:=av.1 (dz a aB);obtain⟨d,o,a⟩:=av.1 a;split at a
  rotate_right
  ·cases a
  all_goals
   obtain⟨s,v,a⟩:=av.1 a;cases a;exact⟨_,e,by simp[Op.operands]⟩
 case index j x i=>
  obtain⟨k,e,a⟩:=av.1 (dz a aB);obtain⟨d,o,a⟩:=av.1 a;split at a
  ·cases a;exact⟨_,e,by simp[Op.operands]⟩
  ·cases a
 case call c=>
  obtain⟨callee,B,F⟩:=c;have g:=dz a aB;clear a;have hl:∀y∈B.toList,y∈(Op.call ⟨callee,B,F⟩).operands.toList:=by
   intro y E;simp[Op.operands,Call.operands];exact .inr (by simpa using E)
  cases callee with
  |value x=>
   cases x<;>simp only[]at g
   case func f=>
    obtain⟨z,J,g⟩:=av.1 g;obtain⟨k,e,g⟩:=av.1 g;cases D:z.body with
    |some c=>rw[D]at g;cases g
    |none=>
     rw[D]at g;obtain⟨O,g⟩:=cH.1 g;obtain⟨H,K,g⟩:=av.1 g;cases g;exact⟨_,e,hl⟩
   all_goals exact dead g
  |invoke x m=>cases g
  |builtin b=>
   obtain⟨k,e,g⟩:=av.1 g;rw[TR (Option.some.inj g)];exact⟨_,e,hl⟩
 all_goals exact dead a
end
section
variable {N:eO}{T:cg}
variable{R:List V→af→Option V}
theorem QY{p:Op}(b:cop N T p=.rd t R):
 ∃l,iE l=some t∧(∀x∈l,x∈p.operands.toList)∧((∃k n,R=iq k n)∨R=tg∨(∃f z o,R=uh f z o)∨R=ug∨R=sF):=by
 cases p<;>simp only[cop,reduceCtorEq]at b
 case load q a=>
  obtain⟨f,j,b⟩:=av.1 (dz b aB);obtain⟨k,w,b⟩:=av.1 b;obtain⟨n,y,b⟩:=av.1 b;cases b;exact⟨[a],vS j,by simp[Op.operands],.inl ⟨k,n,rfl⟩⟩
 case convert s d x=>
  obtain⟨f,j,b⟩:=av.1 (dz b aB);have e:qm T s d [f]=.rd t R:=Option.some.inj b;unfold qm at e;split at e<;>first|(cases e;done)|skip
  ·split at e<;>cases e
  ·split at e
   ·cases e;exact⟨[x],vS j,by simp[Op.operands],.inr (.inl rfl)⟩
   ·cases e
 case call c=>
  obtain⟨callee,B,C⟩:=c;have h:=dz b aB;clear b;cases callee with
  |value x=>cases x<;>simp only[]at h<;>exact dead h
  |invoke x m=>cases h
  |builtin bi=>
   obtain⟨r,u,h⟩:=av.1 h;have g:=dz (Option.some.inj h) aB;clear h;obtain⟨q,A,g⟩:=av.1 g;obtain⟨d,v,g⟩:=av.1 g;cases bi<;>simp only[reduceCtorEq]at g
   case len=>
    cases d<;>simp only[reduceCtorEq,Option.some.injEq,bP.rd.injEq]at g;obtain⟨rfl,rfl⟩:=g;exact⟨_,u,by simp[Op.operands,Call.operands],.inr (.inr (.inr (.inl rfl)))⟩
   all_goals exact dead g
 case lookup q x i o=>
  obtain⟨r,j,b⟩:=av.1 (dz b aB);obtain⟨d,_,b⟩:=av.1 b;cases d<;>simp only[reduceCtorEq]at b;obtain⟨f,_,b⟩:=av.1 b;obtain⟨_,_,b⟩:=av.1 b;obtain⟨_,_,b⟩:=av.1 b;obtain⟨z,_,b⟩:=av.1 b;cases b;exact⟨_,j,by simp[Op.operands],.inr (.inr (.inl ⟨f,z,o,rfl⟩))⟩
 case entry x=>
  obtain⟨f,j,b⟩:=av.1 (dz b aB);cases b;exact⟨[x],vS j,by simp[Op.operands],.inr (.inr (.inr (.inr rfl)))⟩
 case makeFunc f _ _=>
  cases f<;>simp only[reduceCtorEq]at b;exact dead b
 all_goals exact dead b
theorem Hs{a:Op}(d:cop N T a=.rd t R):Looks a t:=by
 obtain⟨l,b,c,_⟩:=QY d;exact⟨l,b,c⟩
theorem KC(p:∀h,c.next≤h→c.get h=.none){d:cP}(n:c.cells? h=some b):(c.push d).cells? h=some b:=by
 obtain⟨g,f,o⟩:=cells?_some n;have i:∀ {x:Nat},c.get x≠ .none→c.next≠x:=fun{x} q e=>q (p x aa)
 have l:(c.push d).get h=.cells b g:=by rw[af.bf,aj (i (by rw[f];simp))];exact f
 have m:(c.push d).fR h g=true:=by
  rcases gq.1 o with e|⟨a,j,e,k⟩
  ·exact gq.2 (.inl e)
  ·exact gq.2 (.inr ⟨a,j,by rw[af.bf,aj (i (by rw[e];simp))];exact e,k⟩)
 unfold af.cells?;rw[l];show aQ ((c.push d).fR h g) (some b)=some b;rw[m];rfl
theorem aoV{F:Op}(D:cop N T F=.rd t R)(u:∀a,c.next≤a→c.get a=.none){l:cP}{v:V}(h:R b c=some v):R b (c.push l)=some v:=by
 obtain⟨_,_,_,C⟩:=QY D;have A:∀ {x:Nat},c.get x≠ .none→c.next≠x:=fun{x} E e=>E (u x aa)
 have r:∀ {a:Nat}{g:List (V×V)},c.jg a=some g→(c.push l).jg a=some g:=by
  intro a g h;have i:=GA h;unfold af.jg;rw[af.bf,aj (A (by rw[i];simp)),i]
 have b7:∀ {a o n:Nat}{w:List V},c.cS a o n=some w→(c.push l).cS a o n=some w:=by
  intro a o n w h;obtain⟨j,i,p⟩:=av.1 h;exact av.2 ⟨j,KC u i,p⟩
 have i:∀ {a o:Nat}{v:V},c.load a o=some v→(c.push l).load a o=some v:=by
  intro a o v h;obtain⟨j,i,p⟩:=av.1 h;exact av.2 ⟨j,KC u i,p⟩
 rcases C with⟨B,n,rfl⟩|rfl|⟨f,z,H,rfl⟩|rfl|rfl
 ·unfold iq at h⊢;split at h
  ·cases B with
   |false=>exact i h
   |true=>
    obtain⟨j,k,d⟩:=av.1 h;exact av.2 ⟨j,b7 k,d⟩
  ·exact h
  ·cases h
 ·unfold tg at h⊢;split at h
  ·exact h
  ·exact h
  ·obtain⟨j,k,d⟩:=av.1 h;exact av.2 ⟨j,b7 k,d⟩
  ·exact h
  ·cases h
 ·unfold uh at h⊢;split at h
  ·obtain⟨q,k,h⟩:=av.1 h;refine av.2 ⟨q,k,?_⟩;split at h
   ·exact h
   ·obtain⟨g,d,h⟩:=av.1 h;exact av.2 ⟨g,r d,h⟩
   ·cases h
  ·cases h
 ·unfold ug at h⊢;split at h
  ·exact h
  ·obtain⟨g,d,h⟩:=av.1 h;exact av.2 ⟨g,r d,h⟩
  ·cases h
 ·unfold sF at h⊢;split at h
  ·split at h
   ·rename_i a m s seen G y;rw[af.bf,aj (A (by rw[y];simp)),y];obtain⟨g,d,h⟩:=av.1 h;exact av.2 ⟨g,r d,h⟩
   ·cases h
  ·cases h
end
section
variable {N:eO}{T:cg}{ol:List Oper}{B:Nat}
def kS(N:eO)(T:cg)(ol:List Oper)(B:Nat)(o:Oper)(F:Fr)(H:af)(d:aG):Prop:=
 ∃t,o.dst=some t∧
 ((mc ol o.guard F=some false∧F.get V.undef t=V.undef)∨
  (mc ol o.guard F=some true∧∃a g r,cop N T o.op=.pu a g∧g (vals a F)=some r∧
    ((∃v,r=.val v∧F.get V.undef t=v)∨(∃b c id,r=.new b c∧F.get V.undef t=c.mk id∧H.get id=.cells b 0∧d id=none∧id<H.next∧B≤id)))∨
  (mc ol o.guard F=some true∧∃a g,cop N T o.op=.rd a g∧g (vals a F) H=some (F.get V.undef t)))
theorem alW{b:f→Bool}{l:List f}:zy b l=true↔∃x∈l,b x=true:=by
 induction l with
 |nil=>simp[zy]
 |cons a l c=>
  have e:zy b (a::l)=or (b a) (zy b l):=rfl;rw[e,r3,c];simp
theorem vR:Cl a i=true↔i=some a:=by
 cases i with
 |none=>simp[Cl]
 |some u=>exact⟨fun h=>by rw[(beq_eq _ _).1 h],fun h=>by cases h;exact(beq_eq _ _).2 rfl⟩
variable{Y:Oper}
theorem Q4(h:Operand.tmp a∈Y.op.operands.toList):reads ol Y a=true:=by
 unfold reads;rw[r3];exact .inl (alW.2 ⟨_,h,(beq_eq _ _).2 rfl⟩)
theorem uM{a:Fr}(h:∀t,reads ol Y t=true→a.get V.undef t=m.get V.undef t):mc ol Y.guard a=mc ol Y.guard m:=by
 unfold mc;cases f:Y.guard with
 |none=>rfl
 |some c=>
  obtain⟨j,b⟩:=c;simp only[];cases d:tS ol j with
  |none=>rfl
  |some t=>
   have:reads ol Y t=true:=by
    unfold reads;rw[r3,f];exact .inr (by simp only[d];exact vR.2 rfl)
   have e:aO.lS V.undef (path t) a=aO.lS V.undef (path t) m:=h t this
   dsimp only
   rw[e]
theorem sW(hl:Looks Y.op t){b:Fr}(h:∀a,reads ol Y a=true→b.get V.undef a=m.get V.undef a):vals t b=vals t m:=by
 obtain⟨l,c,d⟩:=hl;exact anT c (fun a e=>h a (Q4 (d _ e)))
theorem kS.keep{f:Fr}{H':af}{u:aG}(l:kS N T ol B Y m c o)(s:∀t,k6 ol Y t=true→f.get V.undef t=m.get V.undef t)
 (F:∀id e,c.get id=.cells e 0→o id=none→id<c.next→H'.get id=.cells e 0∧u id=none∧id<H'.next)
 (G:∀b g v,cop N T Y.op=.rd b g→mc ol Y.guard m=some true→g (vals b m) c=some v→m.get V.undef (Y.dst.getD 0)=v→g (vals b m) H'=some v):kS N T ol B Y f H' u:=by
 obtain⟨t,p,l⟩:=l;have n:∀t,reads ol Y t=true→f.get V.undef t=m.get V.undef t:=fun t h=>s t (by unfold k6;rw[h];simp)
 have i:f.get V.undef t=m.get V.undef t:=s t (by unfold k6;rw[vR.2 p];rfl);have q:=uM n;refine⟨t,p,?_⟩;rcases l with⟨d,a⟩|⟨d,b,g,r,a,j,z⟩|⟨d,b,g,a,j⟩
 ·exact .inl ⟨q.trans d,i.trans a⟩
 ·refine .inr (.inl ⟨q.trans d,b,g,r,a,?_,?_⟩)
  ·rw[sW (xX a) n];exact j
  ·rcases z with⟨v,rfl,k⟩|⟨e,H,id,rfl,k,A,C,D,E⟩
   ·exact .inl ⟨v,rfl,i.trans k⟩
   ·obtain⟨w,x,y⟩:=F id e A C D;exact .inr ⟨e,H,id,rfl,i.trans k,w,x,y,E⟩
 ·refine .inr (.inr ⟨q.trans d,b,g,a,?_⟩);rw[sW (Hs a) n,i];exact G b g _ a d j (by rw[p];rfl)
theorem oI(F:Fr)(t u:Nat)(v:V):(put F (some t) v).get V.undef u=if t=u then v else F.get V.undef u:=aO.aK V.undef F t u v
theorem kS.first{cf:jR}(y:Y.dst=some a)(s:qA (cop N T Y.op)=false)(I:reads ol Y a=false){o:Fr}{φ:aG}(J:∀b,c.next≤b→φ b=none)(F:B≤c.next)
 (h:exec cf (stepOf N T ol Y) m c=some (o,H)):
 kS N T ol B Y o H φ∧(∀u,u≠a→o.get V.undef u=m.get V.undef u)∧(H=c∨∃i,H=c.push (.cells i 0))∧(∀d g i l,mc ol Y.guard o=some true→cop N T Y.op=.pu d g→g (vals d o)=some (.new i l)→o.get V.undef a=Shape.mk l c.next):=by
 unfold exec at h;have j:∀ {v:V} u,reads ol Y u=true→(put m (some a) v).get V.undef u=m.get V.undef u:=by
  intro v u k;rw[oI,aj];intro e;subst e;rw[I]at k;cases k
 have G:(stepOf N T ol Y).dst=some a:=y;rw[G]at h;have K:(stepOf N T ol Y).want m=mc ol Y.guard m:=rfl;rw[K]at h;cases n:mc ol Y.guard m with
 |none=>rw[n]at h;cases h
 |some L=>
 cases L with
 |false=>
  rw[n]at h;cases h;exact⟨⟨a,y,.inl ⟨(uM j).trans n,by rw[oI,ak rfl]⟩⟩,fun u k=>by rw[oI,aj (fun e=>k e.symm)],.inl rfl,fun d g i l C _ _=>by rw[uM j,n]at C;cases C⟩
 |true=>
  rw[n]at h
  have p:(match cop N T Y.op with
   |.bad=>aM
   |.pu d g=>ao (g (vals d m)) fun r=>aY.casesOn (motive:=fun _=>Option (Fr×af)) r (fun v=>some (put m (some a) v,c)) (fun i l=>some (put m (some a) (l.mk c.next),c.push (.cells i 0)))
   |.rd d g=>ao (g (vals d m) c) fun v=>some (put m (some a) v,c)
   |.gB d g=>ao (g (vals d m) c) fun r=>some (put m (some a) r.1,r.2)
   |.call d g=>ao (g (vals d m)) fun A=>ao (cf A.1 A.2 c) fun r=>some (put m (some a) r.1,r.2)
   |.mN _=>aM)=some (o,H):=h
  cases f:cop N T Y.op with
  |bad=>rw[f]at p;cases p
  |gB d g=>rw[f]at s;cases s
  |call d g=>rw[f]at s;cases s
  |mN x=>rw[f]at s;cases s
  |pu d g=>
   rw[f]at p;obtain⟨r,q,z⟩:=av.1 p;cases r with
   |val v=>
    cases z;refine⟨⟨a,y,.inr (.inl ⟨(uM j).trans n,d,g,.val v,f,by rw[sW (xX f) j];exact q,.inl ⟨v,rfl,by rw[oI,ak rfl]⟩⟩)⟩,fun u k=>by rw[oI,aj (fun e=>k e.symm)],.inl rfl,fun E D i l _ t w=>by
     cases t;rw[sW (xX f) j,q]at w;cases w⟩
   |new i l=>
    cases z
    refine⟨⟨a,y,.inr (.inl ⟨(uM j).trans n,d,g,.new i l,f,by rw[sW (xX f) j];exact q,.inr ⟨i,l,c.next,rfl,by rw[oI,ak rfl],by rw[af.bf,ak rfl],J _ (aE _),by show c.next<c.next+1;omega,F⟩⟩)⟩,
     fun u k=>by rw[oI,aj (fun e=>k e.symm)],.inr ⟨i,rfl⟩,fun E D M O _ t w=>by
      cases t;rw[sW (xX f) j,q]at w;cases w;rw[oI,ak rfl]⟩
  |rd d g=>
   rw[f]at p;obtain⟨v,q,z⟩:=av.1 p;cases z;refine⟨⟨a,y,.inr (.inr ⟨(uM j).trans n,d,g,f,by rw[sW (Hs f) j,oI,ak rfl];exact q⟩)⟩,fun u k=>by rw[oI,aj (fun e=>k e.symm)],.inl rfl,fun E D i l _ t _=>by cases t⟩
end
section
variable {N:eO}{T:cg}{ol:List Oper}{B:Nat}{cf:jR}
theorem Rel.aiE(a:Rel o c r):∀b,c.next≤b→c.get b=.none:=fun _ h=>(a.top h).2
def sv(N:eO)(T:cg)(ol:List Oper)(o:Oper)(F:Fr)(id:Nat):Prop:=
 ∃t b g c a,o.dst=some t∧mc ol o.guard F=some true∧cop N T o.op=.pu b g∧g (vals b F)=some (.new c a)∧F.get V.undef t=Shape.mk a id
def AF(N:eO)(T:cg)(ol:List Oper)(D:Oper→Prop)(F:Fr):Prop:=∀x y,D x→D y→∀id,sv N T ol x F id→sv N T ol y F id→x=y
theorem mk_inj{s c:Shape}{a:Nat}(b:s.mk a=c.mk h):a=h:=by
 cases s<;>cases c<;>simp only[Shape.mk]at b<;>cases b<;>rfl
variable{Y:Oper}
theorem sv.congr{a:Fr}{id:Nat}(h:sv N T ol Y a id)(d:∀t,k6 ol Y t=true→a.get V.undef t=m.get V.undef t):sv N T ol Y m id:=by
 obtain⟨t,o,g,f,n,b,i,c,j,k⟩:=h;have e:∀t,reads ol Y t=true→a.get V.undef t=m.get V.undef t:=fun t h=>d t (by unfold k6;rw[h];simp)
 have l:a.get V.undef t=m.get V.undef t:=d t (by unfold k6;rw[vR.2 b];rfl);refine⟨t,o,g,f,n,b,(uM e).symm.trans i,c,?_,l.symm.trans k⟩;rw[←sW (xX c) e];exact j
theorem sv.lt{id:Nat}(h:sv N T ol Y m id)(b:kS N T ol B Y m c o):id<c.next:=by
 obtain⟨t,F,g,y,C,q,s,k,u,w⟩:=h;obtain⟨E,j,b⟩:=b;rw[q]at j;cases j;rcases b with⟨d,_⟩|⟨_,x,p,r,a,f,l⟩|⟨_,x,p,a,_⟩
 ·rw[s]at d;cases d
 ·rw[k]at a;cases a;rw[u]at f;cases f;rcases l with⟨v,e,_⟩|⟨z,D,A,e,i,_,_,n,_⟩
  ·cases e
  ·cases e;rw[w]at i;rw[mk_inj i];exact n
 ·rw[k]at a;cases a
theorem RZ{φ:aG}{w:World}(a:List Info):∀(F:Fr) (H:af) (k:Fr) (f:af) (D:Oper→Prop),
 (∀u∈a,u.s=stepOf N T ol u.o∧qA (cop N T u.o.op)=false∧∃t,u.o.dst=some t∧reads ol u.o t=false)→
 (∀x u,D x→u∈a→∀t,u.o.dst=some t→k6 ol x t=false)→
 a.Pairwise (fun u1 u2=>∀t,u2.o.dst=some t→k6 ol u1.o t=false)→
 Rel φ H w→B≤H.next→(∀x,D x→kS N T ol B x F H φ)→AF N T ol D F→s5 cf (lmap (fun i=>c3.ex i.s) a) F H=some (k,f)→
 Rel φ f w∧(∀x,D x→kS N T ol B x k f φ)∧(∀u∈a,kS N T ol B u.o k f φ)∧(∀t,(∀u∈a,u.o.dst≠some t)→k.get V.undef t=F.get V.undef t)∧H.next≤f.next∧(∀b,b<H.next→f.get b=H.get b)∧
 AF N T ol (fun x=>D x∨∃u∈a,x=u.o) k:=by
 induction a with
 |nil=>
  intro F H k f D _ _ _ p _ E P h;cases h;refine⟨p,E,aB,fun _ _=>rfl,aE _,fun _ _=>rfl,?_⟩;rintro x y (M|⟨u,I,_⟩) (hy|⟨v,hv,_⟩) id
  ·exact P x y M hy id
  ·cases hv
  ·cases I
  ·cases I
 |cons u a ih=>
  intro F H k f D I M X p hB E P h;obtain⟨⟨A,C⟩,S,h2⟩:=av.1 (show ao (exec cf u.s F H) (fun r=>s5 cf (lmap (fun i=>c3.ex i.s) a) r.1 r.2)=some (k,f)from h);obtain⟨j,hE,t,L,a0⟩:=I u aB;rw[j]at S;obtain⟨p1,Y,O,a5⟩:=kS.first (B:=B) L hE a0 (φ:=φ) (fun b K=>(p.top K).1) hB S
  have aw:Rel φ C w:=by
   rcases O with rfl|⟨l,rfl⟩
   ·exact p
   ·exact Ra p
  have bd:H.next≤C.next:=by
   rcases O with rfl|⟨l,rfl⟩
   ·exact aE _
   ·show H.next≤H.next+1;omega
  have U:∀b,b<H.next→C.get b=H.get b:=by
   intro b K;rcases O with rfl|⟨l,rfl⟩
   ·rfl
   ·rw[af.bf,aj aa]
  have G:∀x,D x→∀d,k6 ol x d=true→A.get V.undef d=F.get V.undef d:=by
   intro x c d j;refine Y d (fun e=>?_);have:=M x u c aB t L;rw[e,this]at j;cases j
  have am:∀x,(D x∨x=u.o)→kS N T ol B x A C φ:=by
   rintro x (c|rfl)
   ·refine(E x c).keep (G x c) (fun id l m J n=>⟨by rw[U id n];exact m,J,aa⟩) (fun xs g v m J n _=>?_);rcases O with rfl|⟨l,rfl⟩
    ·exact n
    ·exact aoV m p.aiE n
   ·exact p1
  have W:∀id,sv N T ol u.o A id→H.next≤id:=by
   intro id ⟨t',xs,g,l,sh,m,J,n,ac,ad⟩;rw[L]at m;cases m;have:=a5 xs g l sh J n ac;rw[ad]at this;exact Nat.le_of_eq (mk_inj this).symm
  have ar:AF N T ol (fun x=>D x∨x=u.o) A:=by
   rintro x y (c|rfl) (q|rfl) id Q R
   ·exact P x y c q id (Q.congr (G x c)) (R.congr (G y q))
   ·have:=(Q.congr (G x c)).lt (E x c);have:=W id R;omega
   ·have:=(R.congr (G y q)).lt (E y q);have:=W id Q;omega
   ·rfl
  obtain⟨q1,Z,a7,a8,be,a9,a'⟩:=ih A C k f (fun x=>D x∨x=u.o) (fun v hv=>I v (by simp[hv])) (fun x v a1 hv d j=>by
   rcases a1 with h|rfl
   ·exact M x v h (by simp[hv]) d j
   ·exact(tD.1 X).1 v hv d j) (tD.1 X).2 aw aa am ar h2
  refine⟨q1,fun x h=>Z x (.inl h),fun v hv=>?_,fun d j=>?_,aa,fun b K=>by rw[a9 b aa,U b K],?_⟩
  ·rcases g7.1 hv with rfl|hv
   ·exact Z _ (.inr rfl)
   ·exact a7 v hv
  ·rw[a8 d (fun v hv=>j v (by simp[hv])),Y d (fun e=>j u aB (by rw[e];exact L))]
  ·intro x y c q;have conv:∀z,(D z∨∃v∈u::a,z=v.o)→((D z∨z=u.o)∨∃v∈a,z=v.o):=by
    rintro z (h|⟨v,hv,rfl⟩)
    ·exact .inl (.inl h)
    ·rcases g7.1 hv with rfl|hv
     ·exact .inl (.inr rfl)
     ·exact .inr ⟨v,hv,rfl⟩
   exact a' x y (conv x c) (conv y q)
theorem NP{e:aG}{a:af}{w:World}(h:Ext o c r e H w)(p:Rel e a w)(hn:H.next≤a.next)(g:∀b,b<H.next→a.get b=H.get b):Ext o c r e a w:=
 ⟨p,h.le,h.fresh,fun d m n=>by rw[g _ (eG d h.next)];exact h.nX d m n,cy h.next hn,h.lU,h.size,h.same,fun{b l} f i=>let⟨j,k⟩:=h.jx f i;⟨by rw[g b (tI fun d=>by have:=h.le b l f;rw[(h.rel.top d).1]at this;cases this)];exact j,k⟩,h.ni⟩
theorem agK{j:aG}{w p:World}(d:Ext o c r j H w)(u:H.get a=.cells b 0)(n:j a=none)(v:a<H.next)(t:c.next≤a)(g:tL j (.cells b 0) h w p):
 Ext o c r (j.add a ⟨w.heap.size,0,h⟩) H p:=by
 refine⟨Q_ d.rel u n v g,aG.le_trans d.le (aG.vF n),?_,d.nX,d.next,?_,by rw[g.size];have:=d.size;omega,d.same.trans g.same,fun{a l} i f=>let⟨q,s⟩:=d.jx i f;⟨q,(g.old l.c (d.rel.loc (d.le a l i))).trans s⟩,fun k x e=>d.ni k x e⟩
 ·intro x l i f;rw[aG.add_get]at f;split at f
  ·rename_i e;subst e;cases f;exact⟨t,.inl d.size⟩
  ·exact d.fresh i f
 ·intro k m y;rw[g.old k (eG m d.size)];exact d.lU m y
end
theorem vH(b:f→Bool)(l:List f):kH b l=l.filter b:=by
 induction l with
 |nil=>rfl
 |cons a l c=>
  have e:kH b (a::l)=Bool.casesOn (motive:=fun _=>List f) (b a) (kH b l) (a::kH b l):=rfl;rw[e,c];cases h:b a<;>simp[h]
section
variable {N:eO}{T:cg}
def mkInfo(N:eO)(T:cg)(a:List Oper)(i:Nat)(o:Oper):Info:=⟨i,o,maskAt a i,stepOf N T a o,qA (cop N T o.op)⟩
theorem aiW{a:List Oper}:∀(l:List Oper) (ms:List Nat) (k i:Nat),(infos N T a l ms k)[i]? =(l[i]?).map (fun o=>⟨k+i,o,(ms[i]?).getD 0,stepOf N T a o,qA (cop N T o.op)⟩):=by
 intro l;induction l with
 |nil=>intro ms k i;rfl
 |cons o l c=>
  intro ms k i;have e:infos N T a (o::l) ms k=⟨k,o,rK 0 ms 0,stepOf N T a o,qA (cop N T o.op)⟩::infos N T a l (eC ms 1) (k+1):=rfl;rw[e];cases i with
  |zero=>simp[vI]
  |succ i=>
   rw[List.getElem?_cons_succ,c,kG,List.getElem?_cons_succ];have b:k+1+i=k+(i+1):=aa;simp[b]
def dh(N:eO)(T:cg)(a:List Oper):List Info:=infos N T a a (masks a []) 0
theorem AP(a:List Oper)(i:Nat):(dh N T a)[i]? =(a[i]?).map (mkInfo N T a i):=by
 unfold dh;rw[aiW];congr 1;funext o;simp[mkInfo,maskAt,vI]
theorem qj{b:List Oper}{x:Info}:x∈dh N T b↔∃i o,b[i]? =some o∧x=mkInfo N T b i o:=by
 rw[List.mem_iff_getElem?];constructor
 ·rintro⟨i,h⟩;rw[AP]at h;obtain⟨o,a,c⟩:=Option.map_eq_some_iff.1 h;exact⟨i,o,a,c.symm⟩
 ·rintro⟨i,o,a,rfl⟩;exact⟨i,by rw[AP,a];rfl⟩
theorem Jc(c:List Oper):(dh N T c).Pairwise (fun a b=>a.ix<b.ix):=by
 rw[List.pairwise_iff_getElem];intro i j hi k h;have d:=AP (N:=N) (T:=T) c i;have e:=AP (N:=N) (T:=T) c j;rw[cn hi]at d;rw[cn k]at e;obtain⟨l,_,f⟩:=Option.map_eq_some_iff.1 d.symm;obtain⟨m,_,g⟩:=Option.map_eq_some_iff.1 e.symm;rw[←f,←g];exact h
theorem rm{b:List Oper}{x y:Info}(d:x∈dh N T b)(f:y∈dh N T b)(h:x.ix=y.ix):x=y:=by
 obtain⟨i,o,c,rfl⟩:=qj.1 d;obtain⟨j,g,a,rfl⟩:=qj.1 f;have e:i=j:=h;subst e;rw[c]at a;cases a;rfl
theorem Us{d:List Oper}(j:mD d 0=true):∀ {l:List Info},(∀x∈l,x.mask=maskAt d x.ix)→A1 l=true→l.Pairwise (fun a b=>Pred d b.ix a.ix):=by
 intro l;induction l with
 |nil=>intro _ _;exact .nil
 |cons a l m=>
  intro g h;have e:and (A1 l) (List.casesOn (motive:=fun _=>Bool) l true (fun b _=>iB b.mask a.ix))=true:=h;rw[cu]at e;have i:=m (fun x k=>g x (by simp[k])) e.1;refine tD.2 ⟨?_,i⟩;cases l with
  |nil=>simp
  |cons b l=>
   have f:Pred d b.ix a.ix:=by
    unfold Pred;rw[←g b aB];exact e.2
   intro c hc;rcases g7.1 hc with rfl|hc
   ·exact f
   ·exact Hf j ((tD.1 i).1 c hc) f
theorem UX(a:List Info)(m:Nat):nc a m=(a.filter (fun e=>iB m e.ix)).length:=by
 induction a with
 |nil=>rfl
 |cons e a c=>
  have h:nc (e::a) m=Bool.casesOn (motive:=fun _=>Nat) (iB m e.ix) (nc a m) (Nat.succ (nc a m)):=rfl;rw[h,c];cases b:iB m e.ix<;>simp[b]
def ri(a:List Oper)(x:Info)(r:List Info):Prop:=∀e∈r,¬Pred a x.ix e.ix
theorem H6{c:List Oper}(j:mD c 0=true){done r:List Info}(k:(done++r).Pairwise (fun a b=>Pred c b.ix a.ix)){x:Info}(m:x.mask=maskAt c x.ix):nc (done++r) x.mask≤done.length↔ri c x r:=by
 rw[UX,m,List.filter_append,aS];constructor
 ·intro h e f g;have i:done.filter (fun e=>iB (maskAt c x.ix) e.ix)=done:=by
   rw[List.filter_eq_self];intro d i;exact Hf j g ((wK.1 k).2.2 d i e f)
  rw[i]at h;have:0<(r.filter (fun e=>iB (maskAt c x.ix) e.ix)).length:=List.length_pos_of_mem (oV.2 ⟨f,g⟩);omega
 ·intro h;have l:r.filter (fun e=>iB (maskAt c x.ix) e.ix)=[]:=by
   rw[List.filter_eq_nil_iff];intro e f g;exact h e f g
  rw[l];have:=List.length_filter_le (fun e:Info=>iB (maskAt c x.ix) e.ix) done;simpa using this
theorem qS{a:List Oper}(h:tf a (dh N T a)=true){k:Info}(c:k∈dh N T a):
 (k.o.dst=none→k.gE=true)∧∀t,k.o.dst=some t→(k.gE=true∨reads a k.o t=false)∧∀i∈dh N T a,i.ix=k.ix∨k6 a i.o t=false∨Pred a i.ix k.ix∨(k.gE=true∧Pred a k.ix i.ix):=by
 have b:=uf.1 h k c;have d:∀i∈dh N T a,i.mask=maskAt a i.ix:=by
  intro i hi;obtain⟨j,g,_,rfl⟩:=qj.1 hi;rfl
 constructor
 ·intro e;rw[e]at b;exact b
 ·intro t f;rw[f]at b;simp only[cu,r3,Bool.not_eq_true']at b;refine⟨b.1,fun i hi=>?_⟩;have h2:=uf.1 b.2 i hi;simp only[cu,r3,Bool.not_eq_true',beq_eq]at h2;rcases h2 with h2|h2|h2|h2
  ·exact .inl h2
  ·exact .inr (.inl h2)
  ·exact .inr (.inr (.inl (by unfold Pred;rw[←d i hi];exact h2)))
  ·exact .inr (.inr (.inr ⟨h2.1,by unfold Pred;rw[←d k c];exact h2.2⟩))
end
end Go.au
