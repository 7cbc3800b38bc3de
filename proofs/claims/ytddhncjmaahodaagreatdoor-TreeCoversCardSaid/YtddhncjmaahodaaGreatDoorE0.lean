/- Towards the law TreeCovers: lemmas on the evaluator of the model's code, plain laws of numbers, walks of the program's functions, the card. No conditions. -/
import Derived.Calls
import Derived.Orders
import Derived.Laws.Cells
import Derived.Laws.IdiomCopy
import Derived.Laws.StructEq
import Derived.Laws.Strings
import Derived.Laws.Concat
import Derived.Laws.World
import Derived.Laws.NewBlocks
import Derived.Laws.IdiomStrings
import Derived.KernelRfl
import Derived.Lib.Bytealg
import Derived.Laws.NewFold
import Derived.OrdersIn
import Derived.RangeFuncLeaves
set_option linter.all false
noncomputable section
open Array renaming ext'->um
open Bool renaming and_eq_true->de,eq_false_iff->mo,false_eq_true->jk,not_false->lS,not_true->jQ,or_eq_true->vE
open Go.Instr renaming sliceBounds->uu,sureAddr->yA
open Go.IntKind renaming bits->rQ,signed->rR,wrap->uv
open Go.Result renaming andThen_ok->eO
open Go.Sem renaming run_bind->eE,run_pure->gl
open Int renaming natCast_mul->fF,natCast_nonneg->w9,tdiv->mP,tmod->oB,toNat_natCast->cg
open List renaming eq_nil_of_length_eq_zero->pn,ext_getElem?->oC,getElem?_append_left->s4,getElem?_append_right->vI,getElem?_drop->yD,getElem?_eq_getElem->c4,getElem?_eq_some_iff->jo,getElem?_set->rS,length->af,length_append->bw,length_cons->dZ,length_drop->lB,length_nil->p5,length_take->e8,map_append->vJ,mem_cons->jr,mem_filter->rU,mem_of_getElem?->fL,pairwise_cons->uz,range->kZ,take_succ_eq_append_getElem->lT
open Nat renaming add->gY,add_assoc->ng,add_comm->i_,add_mul->fT,add_zero->dG,beq->bt,ble->b6,eq_zero_or_pos->uB,le_add_right->qP,le_mul_of_pos_left->yI,le_of_ble_eq_true->jI,le_of_lt->ja,le_of_not_lt->k4,le_refl->aJ,le_trans->c5,lt_of_lt_of_le->fy,lt_of_not_le->uC,lt_or_ge->rY,lt_trans->rZ,min_eq_left->p7,mod_eq_of_lt->jR,mod_lt->fD,mul->fz,mul_le_mul_right->ei,strongRecOn->j3,sub->ko,sub_self->nQ,succ_mul->qR,zero_add->eW,zero_le->cj,zero_mul->j4
open Option renaming none->aN
open UInt8 renaming ofNat->iD
namespace Go
abbrev av:=List Nat
abbrev aW:=List UInt8
abbrev cq:=Option Nat
theorem aa{p:Prop}(h:p:=by omega):p:=h
theorem ai{p:Prop}(h:p:=by decide):p:=h
theorem aI{p:Prop}(h:p:=by simp):p:=h
theorem b4{p:Prop}(h:p:=by grind):p:=h
theorem e7{p:Prop}(h:p:=by simp;omega):p:=h
theorem bP{p:Prop}[Decidable p](h:¬p):decide p=false:=decide_eq_false h
theorem b3{p:Prop}[Decidable p](h:p):decide p=true:=decide_eq_true h
theorem ao{c:Prop}{h:Decidable c}(n:¬c){a:Sort _}{t e:a}:ite c t e=e:=if_neg n
theorem ay{c:Prop}{h:Decidable c}(n:c){a:Sort _}{t e:a}:ite c t e=t:=if_pos n
end Go
namespace Go.ax
inductive aY (α:Type) where
 |nil
 |node (l:aY α) (v:α) (r:aY α)
def Jq(f:Nat):Nat->List Bool:=Nat.rec (motive:=λ_=>Nat->List Bool) (λ_=>[]) (λ_ a n=>Nat.rec (motive:=λ_=>List Bool) [] (λm _=>(bt (Nat.mod m 2) 1)::a (Nat.div m 2)) n) f
def path(n:Nat):List Bool:=Jq n n
def Kz:List Bool->Nat
 |[]=>0
 |b::p=>2*Kz p+(if b then 1 else 0)+1
def Uy(f:Nat):∀n,n<=f->Kz (Jq f n)=n:=by
 induction f with
 |zero=>intro n h;have:n=0:=aa;subst this;rfl
 |succ f a=>
  intro n h;cases n with
  |zero=>rfl
  |succ m=>show 2*Kz (Jq f (m/2))+(if bt (m%2) 1 then 1 else 0)+1=m+1;rw[a (m/2) aa];rcases Nat.mod_two_eq_zero_or_one m with h|h<;>simp[h,bt]<;>omega
variable{d:Nat}
theorem ar7{a:Nat}(h:path a=path d):a=d:=by have b:=Uy a a (aJ _);have c:=Uy d d (aJ _);unfold path at h;rw[<-b,<-c,h]
variable{f:Type}
def aY.nw(d:f)(p:List Bool):aY f->f:=
 List.rec (motive:=λ_=>aY f->f) (λt=>aY.casesOn t d (λ_ v _=>v))
  (λb _ a t=>aY.casesOn t d (λl _ r=>Bool.casesOn b (a l) (a r))) p
def aY.vn(d x:f)(p:List Bool):aY f->aY f:=
 List.rec (motive:=λ_=>aY f->aY f) (λt=>aY.casesOn t (.node .nil x .nil) (λl _ r=>.node l x r))
  (λb _ a t=>aY.casesOn t (Bool.casesOn b (.node (a .nil) d .nil) (.node .nil d (a .nil)))
    (λl v r=>Bool.casesOn b (.node (a l) v r) (.node l v (a r)))) p
def aY.zl(d:f)(p:List Bool):aY.nw d p .nil=d:=by cases p<;>rfl
theorem aY.akZ(d x:f)(p:List Bool):∀t,aY.nw d p (aY.vn d x p t)=x:=by
 induction p with
 |nil=>intro t;cases t<;>rfl
 |cons b p a=>intro t;cases t<;>cases b<;>exact a _
theorem aY.ak0(d x:f)(p:List Bool):∀(q:List Bool) t,q≠p->aY.nw d q (aY.vn d x p t)=aY.nw d q t:=by
 induction p with
 |nil=>
  intro q t a;cases q with
  |nil=>exact absurd rfl a
  |cons b q=>
   cases t with
   |nil=>cases b<;>exact aY.zl d q
   |node l v r=>cases b<;>rfl
 |cons c p e=>
  intro q t a;cases q with
  |nil=>cases t<;>cases c<;>rfl
  |cons b q=>
   cases t with
   |nil=>
    cases b<;>cases c
    .exact(e q .nil (λh=>a (by rw[h]))).trans (aY.zl d q)
    .exact aY.zl d q
    .exact aY.zl d q
    .exact(e q .nil (λh=>a (by rw[h]))).trans (aY.zl d q)
   |node l v r=>
    cases b<;>cases c
    .exact e q l (λh=>a (by rw[h]))
    .rfl
    .rfl
    .exact e q r (λh=>a (by rw[h]))
def aY.get(d:f)(t:aY f)(n:Nat):f:=aY.nw d (path n) t
def aY.set(d:f)(t:aY f)(n:Nat)(x:f):aY f:=aY.vn d x (path n) t
theorem aY.get_nil(d:f)(n:Nat):aY.get d .nil n=d:=aY.zl d _
theorem aY.aT(d:f)(t:aY f)(i j:Nat)(x:f):(t.set d i x).get d j=if i=j then x else t.get d j:=by
 unfold aY.get aY.set
 grind [aY.akZ,aY.ak0,ar7]
inductive Cap where
 |known (n:Nat)
 |grown (sz:Nat)
 |oY
 |least (n:Nat)
inductive V where
 |bool (b:Bool)
 |int (k:IntKind) (n:Int)
 |str (s:List UInt8)
 |ptr (b o:Nat)
 |jV
 |slice (b o len:Nat) (cap:Cap)
 |aA
 |emp
 |map (b:Nat)
 |lf
 |func (f:FuncId) (first captured:List V)
 |mc
 |me
 |agg (cs:List V)
 |aH (vs:List V)
 |any
 |cell
 |row (n:Nat) (cs:List V)
 |dY (cs:List V) (k:Nat)
 |ie
 |jZ (b:Nat)
abbrev au:=List V
abbrev V.undef:V:=.aH []
abbrev Fr:=aY V
structure uk where
 n:Nat
 F:Fr
 params:List Nat
 assign:Code
 body:Code
 st:Nat
 pM:Option Code
inductive p8 where
 |map (es:List (V×V))
 |iter (m since:Nat) (left:List Nat) (cur:Option Nat) (last:Nat)
 |ro (x:Obj)
 |loop (l:uk)
inductive dU where
 |none
 |cells (cs:List V) (g:Nat)
 |bV (leaf floor:Nat)
 |bW (o:p8)
structure ah where
 m:aY dU
 ag:Nat
def tO(d:f)(l:List f):Nat->f:=List.rec (motive:=λ_=>Nat->f) (λ_=>d) (λv _ a n=>Nat.rec (motive:=λ_=>f) v (λm _=>a m) n) l
def dw(l:List f):Nat->Option f:=List.rec (motive:=λ_=>Nat->Option f) (λ_=>aN) (λv _ a n=>Nat.rec (motive:=λ_=>Option f) (some v) (λm _=>a m) n) l
def c_(l:List f):Nat:=List.rec (motive:=λ_=>Nat) 0 (λ_ _ a=>Nat.succ a) l
def eH(l:List f):Nat->List f:=List.rec (motive:=λ_=>Nat->List f) (λ_=>[]) (λv l a n=>Nat.rec (motive:=λ_=>List f) (v::l) (λm _=>a m) n) l
def cW(l:List f):Nat->Option (List f):=
 List.rec (motive:=λ_=>Nat->Option (List f)) (λn=>Nat.rec (motive:=λ_=>Option (List f)) (some []) (λ_ _=>aN) n)
  (λv _ a n=>Nat.rec (motive:=λ_=>Option (List f)) (some []) (λm _=>Option.casesOn (motive:=λ_=>Option (List f)) (a m) aN (λr=>some (v::r))) n) l
def oV(b:List f):List f->Option (List f):=
 List.rec (motive:=λ_=>List f->Option (List f)) (λl=>some l)
  (λx _ a l=>List.casesOn (motive:=λ_=>Option (List f)) l aN (λ_ l=>Option.casesOn (motive:=λ_=>Option (List f)) (a l) aN (λr=>some (x::r)))) b
def dj(a:List f)(l:List f):Nat->Option (List f):=
 List.rec (motive:=λ_=>Nat->Option (List f)) (λn=>Nat.rec (motive:=λ_=>Option (List f)) (oV a []) (λ_ _=>aN) n)
  (λv l b n=>Nat.rec (motive:=λ_=>Option (List f)) (oV a (v::l)) (λm _=>Option.casesOn (motive:=λ_=>Option (List f)) (b m) aN (λr=>some (v::r))) n) l
def aq{a:Type}(x:Option f)(b:f->Option a):Option a:=Option.casesOn (motive:=λ_=>Option a) x aN b
def aX(b:Bool)(x:Option f):Option f:=Bool.casesOn (motive:=λ_=>Option f) b aN x
def ah.get(H:ah)(b:Nat):dU:=H.m.get .none b
def ah.set(H:ah)(b:Nat)(o:dU):ah:=⟨H.m.set .none b o,H.ag⟩
def ah.push(H:ah)(o:dU):ah:=⟨H.m.set .none H.ag o,Nat.succ H.ag⟩
def ah.gr(H:ah)(b g:Nat):Bool:=Nat.rec (motive:=λ_=>Bool) true (λ_ _=>dU.casesOn (motive:=λ_=>Bool) (H.get g) false (λ_ _=>false) (λ_ br=>b6 br b) (λ_=>false)) g
def ah.cells?(H:ah)(b:Nat):Option (List V):=dU.casesOn (motive:=λ_=>Option (List V)) (H.get b) aN (λa g=>aX (H.gr b g) (some a)) (λ_ _=>aN) (λ_=>aN)
def ah.load(H:ah)(b o:Nat):Option V:=aq (H.cells? b) λa=>dw a o
def ah.dz(H:ah)(b o n:Nat):Option (List V):=aq (H.cells? b) λa=>cW (eH a o) n
def V.one(v:V):Bool:=match v with
 |.agg _=>false
 |.aH _=>false
 |.any=>false
 |_=>true
def dI(l:List V):Bool:=List.rec (motive:=λ_=>Bool) true (λv _ a=>and v.one a) l
def ah.fe(H:ah)(b o:Nat)(c:List V):Option ah:=
 dU.casesOn (motive:=λ_=>Option ah) (H.get b) aN
  (λd g=>aX (dI c)<|aq (dj c d o) λa=>
    Nat.rec (motive:=λ_=>Option ah) (some (H.set b (.cells a 0)))
     (λ_ _=>dU.casesOn (motive:=λ_=>Option ah) (H.get g) aN (λ_ _=>aN)
       (λe _=>aX (bt e b) (some ((H.set b (.cells a g)).set g (.bV b b)))) (λ_=>aN)) g)
  (λ_ _=>aN) (λ_=>aN)
def gq(c:f->f->Bool)(l:List f):List f->Bool:=
 List.rec (motive:=λ_=>List f->Bool) (λm=>List.casesOn (motive:=λ_=>Bool) m true (λ_ _=>false))
  (λa _ d m=>List.casesOn (motive:=λ_=>Bool) m false (λb m=>and (c a b) (d m))) l
def iF(a b:IntKind):Bool:=match a,b with
 |.i8,.i8|.i16,.i16|.i32,.i32|.i64,.i64|.u8,.u8|.u16,.u16|.u32,.u32|.u64,.u64=>true
 |_,_=>false
def n_(a b:Int):Bool:=match a,b with
 |.ofNat a,.ofNat b=>bt a b
 |.negSucc a,.negSucc b=>bt a b
 |_,_=>false
def l7(a b:Int):Bool:=match a,b with
 |.ofNat a,.ofNat b=>b6 (Nat.succ a) b
 |.ofNat _,.negSucc _=>false
 |.negSucc _,.ofNat _=>true
 |.negSucc a,.negSucc b=>b6 (Nat.succ b) a
def o8(a b:UInt8):Bool:=bt a.toNat b.toNat
def Gr(a b:Cap):Bool:=match a,b with
 |.known a,.known b=>bt a b
 |.grown a,.grown b=>bt a b
 |.oY,.oY=>true
 |.least a,.least b=>bt a b
 |_,_=>false
def uf(n:Nat):V->V->Bool:=
 Nat.rec (motive:=λ_=>V->V->Bool) (λ_ _=>false) (λ_ c a b=>
  match a with
  |.bool x=>(match b with|.bool y=>Bool.casesOn (motive:=λ_=>Bool) x (!y) y|_=>false)
  |.int k x=>(match b with|.int l y=>and (iF k l) (n_ x y)|_=>false)
  |.str x=>(match b with|.str y=>gq o8 x y|_=>false)
  |.ptr x y=>(match b with|.ptr z t=>and (bt x z) (bt y t)|_=>false)
  |.jV=>(match b with|.jV=>true|_=>false)
  |.slice p q r s=>(match b with|.slice x y z t=>and (and (bt p x) (bt q y)) (and (bt r z) (Gr s t))|_=>false)
  |.aA=>(match b with|.aA=>true|_=>false)
  |.emp=>(match b with|.emp=>true|_=>false)
  |.map x=>(match b with|.map y=>bt x y|_=>false)
  |.lf=>(match b with|.lf=>true|_=>false)
  |.func f x y=>(match b with|.func g z t=>and (bt f g) (and (gq c x z) (gq c y t))|_=>false)
  |.mc=>(match b with|.mc=>true|_=>false)
  |.me=>(match b with|.me=>true|_=>false)
  |.agg x=>(match b with|.agg y=>gq c x y|_=>false)
  |.aH x=>(match b with|.aH y=>gq c x y|_=>false)
  |.any=>false
  |.cell=>false
  |.row x y=>(match b with|.row z t=>and (bt x z) (gq c y t)|_=>false)
  |.dY x y=>(match b with|.dY z t=>and (gq c x z) (bt y t)|_=>false)
  |.ie=>(match b with|.ie=>true|_=>false)
  |.jZ _=>false) n
def wX(f:Value->Option V)(l:List Value):Option (List V):=List.rec (motive:=λ_=>Option (List V)) (some []) (λv _ a=>aq (f v) λx=>aq a λr=>some (x::r)) l
def ow(n:Nat):Value->Option V:=
 Nat.rec (motive:=λ_=>Value->Option V) (λ_=>aN) (λ_ c v=>
  match v with
  |.bool b=>some (.bool b)
  |.int k n=>some (.int k n)
  |.string s=>some (.str s.data.toList)
  |.pointer aN=>some .jV
  |.slice aN 0 0=>some .aA
  |.map aN=>some .lf
  |.nilFunc=>some .mc
  |.nilIface=>some .me
  |.agg a=>aq (wX c a.toList) λr=>some (.agg r)
  |.tuple a=>aq (wX c a.toList) λr=>some (.aH r)
  |_=>aN) n
structure c6 where
 m:aY (Option TypeInfo)
 zW:TypeId->Option (List TypeDesc)
def c6.info(T:c6)(t:TypeId):Option TypeInfo:=T.m.get aN t
def c6.bI(T:c6)(t:TypeId):Option TypeDesc:=
 aq (T.info t) λi=>match i.desc with
  |.named _ u=>aq (T.info u) λj=>some j.desc
  |d=>some d
def c6.isAgg(T:c6)(t:TypeId):Option Bool:=aq (T.bI t) λd=>match d with
 |.struct _=>some true
 |.array _ _=>some true
 |_=>some false
inductive Shape where
 |ptr|slice (len cap:Nat)|bytes (len:Nat)|map|least (len:Nat)
inductive bh where
 |val (v:V)
 |new (cs:List V) (s:Shape)
def Shape.mk(s:Shape)(b:Nat):V:=match s with
 |.ptr=>.ptr b 0
 |.slice l c=>.slice b 0 l (.known c)
 |.bytes l=>.slice b 0 l .oY
 |.map=>.map b
 |.least l=>.slice b 0 l (.least l)
inductive qW where
 |fn (f:FuncId)
 |jZ (b:Nat)
inductive cl where
 |bad
 |pu (xs:List (Fr->V)) (g:List V->Option bh)
 |rd (xs:List (Fr->V)) (g:List V->ah->Option V)
 |hG (xs:List (Fr->V)) (g:List V->ah->Option (V×ah))
 |call (xs:List (Fr->V)) (g:List V->Option (qW×List V))
 |od (x:Fr->V)
def gQ(x:Operand):Option (Fr->V):=match x with
 |.tmp t=>some (λF=>aY.nw V.undef (path t) F)
 |.const v=>aq (ow 20 v) λy=>some (λ_=>y)
 |.global g=>some (λ_=>.ptr g 0)
 |.func f=>some (λ_=>.func f [] [])
def jA(l:List Operand):Option (List (Fr->V)):=List.rec (motive:=λ_=>Option (List (Fr->V))) (some []) (λx _ a=>aq (gQ x) λf=>aq a λr=>some (f::r)) l
def eR:IntKind->Nat
 |.i8|.u8=>256|.i16|.u16=>65536|.i32|.u32=>4294967296|.i64|.u64=>18446744073709551616
def h_:IntKind->Nat
 |.i8|.u8=>8|.i16|.u16=>16|.i32|.u32=>32|.i64|.u64=>64
def rH:IntKind->Bool
 |.i8|.i16|.i32|.i64=>true
 |_=>false
def iy(M:Nat)(x:Int):Nat:=match x with
 |.ofNat a=>Nat.mod a M
 |.negSucc a=>ko (ko M 1) (Nat.mod a M)
def pC(a:Bool)(M m:Nat):Int:=Bool.casesOn (motive:=λ_=>Int) (and a (b6 M (fz 2 m))) (.ofNat m) (.negSucc (ko (ko M 1) m))
def aE(k:IntKind)(x:Int):Int:=pC (rH k) (eR k) (iy (eR k) x)
def jL(k:IntKind)(x:Int):Option bh:=some (.val (.int k x))
def jw(b:Bool):Option bh:=some (.val (.bool b))
def tU(x:Int)(n:Nat):Int:=match x with
 |.ofNat a=>.ofNat (Nat.div a (Nat.pow 2 n))
 |.negSucc a=>.negSucc (Nat.div a (Nat.pow 2 n))
def ej(a b:Nat):Nat:=Bool.casesOn (motive:=λ_=>Nat) (b6 a b) b a
def DY(c:BinOp):Option (IntKind->Int->IntKind->Int->Option bh):=match c with
 |.add=>some λk a l b=>aX (iF k l) (jL k (aE k (Int.add a b)))
 |.sub=>some λk a l b=>aX (iF k l) (jL k (aE k (Int.sub a b)))
 |.mul=>some λk a l b=>aX (iF k l) (jL k (aE k (Int.mul a b)))
 |.quo=>some λk a l b=>aX (and (iF k l) (!(n_ b (.ofNat 0)))) (jL k (aE k (mP a b)))
 |.rem=>some λk a l b=>aX (and (iF k l) (!(n_ b (.ofNat 0)))) (jL k (oB a b))
 |.and=>some λk a l b=>aX (iF k l) (jL k (pC (rH k) (eR k) (Nat.land (iy (eR k) a) (iy (eR k) b))))
 |.or=>some λk a l b=>aX (iF k l) (jL k (pC (rH k) (eR k) (Nat.lor (iy (eR k) a) (iy (eR k) b))))
 |.shl=>some λk a _ b=>(match b with
   |.ofNat y=>jL k (aE k (Int.mul a (.ofNat (Nat.pow 2 (ej y (h_ k))))))
   |.negSucc _=>aN)
 |.shr=>some λk a _ b=>(match b with
   |.ofNat y=>jL k (tU a (ej y (h_ k)))
   |.negSucc _=>aN)
 |.eql=>some λk a l b=>aX (iF k l) (jw (n_ a b))
 |.neq=>some λk a l b=>aX (iF k l) (jw (!(n_ a b)))
 |.lss=>some λk a l b=>aX (iF k l) (jw (l7 a b))
 |.leq=>some λk a l b=>aX (iF k l) (jw (!(l7 b a)))
 |.gtr=>some λk a l b=>aX (iF k l) (jw (l7 b a))
 |.geq=>some λk a l b=>aX (iF k l) (jw (!(l7 a b)))
 |_=>aN
def dJ(x y:List f):List f:=List.rec (motive:=λ_=>List f) y (λa _ b=>a::b) x
def E7(a:BinOp):Option (aW->aW->Option bh):=match a with
 |.add=>some λx y=>aX (b6 (gY (c_ x) (c_ y)) 9223372036854775807) (some (.val (.str (dJ x y))))
 |.eql=>some λx y=>jw (gq o8 x y)
 |.neq=>some λx y=>jw (!(gq o8 x y))
 |_=>aN
def ga(f:IntKind->Int->IntKind->Int->Option bh)(l:au):Option bh:=
 match l with
 |[a,b]=>(match a with
  |.int k x=>(match b with|.int c y=>f k x c y|_=>aN)
  |_=>aN)
 |_=>aN
def sK(f:aW->aW->Option bh)(l:au):Option bh:=
 match l with
 |[a,b]=>(match a with
  |.str x=>(match b with|.str y=>f x y|_=>aN)
  |_=>aN)
 |_=>aN
def H6(neg:Bool)(l:au):Option bh:=
 match l with
 |[a,b]=>(match a with
  |.bool x=>(match b with|.bool y=>jw (xor neg (xor x (!y)))|_=>aN)
  |.row n _=>(match b with|.aA=>Bool.casesOn (motive:=λ_=>Option bh) (bt n 0) (jw neg) aN|_=>aN)
  |.aA=>(match b with|.aA=>jw (!neg)|.slice .. =>jw neg|.emp=>jw neg|_=>aN)
  |.slice .. =>(match b with|.aA=>jw neg|_=>aN)
  |.emp=>(match b with|.aA=>jw neg|_=>aN)
  |_=>aN)
 |_=>aN
def zg(d:TypeDesc)(a:V):Bool:=match d with
 |.bool=>(match a with|.bool _=>true|_=>false)
 |.slice _=>(match a with|.slice .. =>true|.aA=>true|.emp=>true|.row _ _=>true|_=>false)
 |_=>false
def pI(neg:Bool)(d:TypeDesc)(l:au):Option bh:=match l with
 |a::r=>aX (zg d a) (H6 neg (a::r))
 |_=>aN
def xD(d:TypeDesc)(a b:V):Option Bool:=match d with
 |.int _=>(match a with|.int k x=>(match b with|.int l y=>aX (iF k l) (some (n_ x y))|_=>aN)|_=>aN)
 |_=>aN
def oM(ds:List TypeDesc):au->au->Option Bool:=
 List.rec (motive:=λ_=>au->au->Option Bool) (λa b=>List.casesOn (motive:=λ_=>Option Bool) a (List.casesOn (motive:=λ_=>Option Bool) b (some true) (λ_ _=>aN)) (λ_ _=>aN))
  (λd _ c a b=>List.casesOn (motive:=λ_=>Option Bool) a aN (λx a=>List.casesOn (motive:=λ_=>Option Bool) b aN (λy b=>aq (xD d x y) λr=>aq (c a b) λs=>some (and r s)))) ds
def J4(d:TypeDesc)(a b:V):Option Bool:=match d with
 |.string=>(match a with|.str x=>(match b with|.str y=>some (gq o8 x y)|_=>aN)|_=>aN)
 |d=>xD d a b
def EU(ds:List TypeDesc):au->au->Option Bool:=
 List.rec (motive:=λ_=>au->au->Option Bool) (λ_ _=>some true)
  (λd _ c a b=>match a with
    |x::a=>(match b with|y::b=>aq (J4 d x y) λr=>aq (c a b) λs=>some (and r s)|_=>aN)
    |_=>aN) ds
def CP(ds:List TypeDesc)(l:au):Option bh:=match l with
 |[a,b]=>(match a with
  |.agg x=>(match b with|.agg y=>aq (EU ds x y) λr=>jw (!r)|_=>aN)
  |_=>aN)
 |_=>aN
def wq(d:TypeDesc):Bool:=match d with
 |.int _=>true
 |.string=>true
 |_=>false
def BO(a:f)(n:Nat):List f:=Nat.rec (motive:=λ_=>List f) [] (λ_ b=>a::b) n
def yO(T:c6)(t:TypeId):Option (List TypeDesc):=
 aq (T.bI t) λd=>match d with
  |.array n e=>aq (T.bI e) λd=>aX (wq d)<|aq (T.info e) λi=>aX (bt i.size 1) (some (BO d n))
  |_=>aN
def yS(T:c6)(b:BinOp)(t:TypeId)(a:List (Fr->V)):cl:=
 match T.bI t with
 |some (.int _)=>(match DY b with|some f=>.pu a (ga f)|aN=>.bad)
 |some .string=>(match E7 b with|some f=>.pu a (sK f)|aN=>.bad)
 |some (.struct _)=>(match T.zW t with
  |some ds=>(match b with|.neq=>.pu a (CP ds)|_=>.bad)
  |aN=>.bad)
 |some d=>(match b with|.eql=>.pu a (pI false d)|.neq=>.pu a (pI true d)|_=>.bad)
 |_=>.bad
def cellsOf(v:V):au:=match v with
 |.agg a=>a
 |v=>[v]
def bM(v:V):Bool:=match v with
 |.any=>false
 |_=>true
def rep(b:List f)(n:Nat):List f:=Nat.rec (motive:=λ_=>List f) [] (λ_ a=>dJ b a) n
def jd(c:Bool)(d:Nat)(l:au)(H:ah):Option V:=
 match l with
 |[.ptr b o]=>Bool.casesOn (motive:=λ_=>Option V) c (H.load b o) (aq (H.dz b o d) λa=>some (.agg a))
 |[.dY a k]=>Bool.casesOn (motive:=λ_=>Option V) c (dw a k) (aq (cW (eH a k) d) λr=>some (.agg r))
 |_=>aN
def qB(a:Nat)(l:au)(H:ah):Option (V×ah):=
 match l with
 |[.ptr b o,v]=>aX (and (bM v) (bt (c_ (cellsOf v)) a)) (aq (H.fe b o (cellsOf v)) λH=>some (V.undef,H))
 |_=>aN
def q4(d:List (Nat×Nat)):au->au->Option au:=
 List.rec (motive:=λ_=>au->au->Option au) (λ_ a=>some a)
  (λp _ c b a=>List.casesOn (motive:=λ_=>Option au) b aN (λv b=>aX (and (bM v) (bt (c_ (cellsOf v)) p.2)) (aq (dj (cellsOf v) a p.1) λa=>c b a))) d
def placesOf(f:Nat->Option (Nat×Nat))(l:List (Nat×Operand)):Option (List (Nat×Nat)×List (Fr->V)):=
 List.rec (motive:=λ_=>Option (List (Nat×Nat)×List (Fr->V))) (some ([],[]))
  (λp _ a=>aq (f p.1) λq=>aq (gQ p.2) λx=>aq a λr=>some (q::r.1,x::r.2)) l
def zeroCells(T:c6)(t:TypeId):Option au:=aq (T.info t) λi=>aq i.zero λz=>aq (ow 20 z) λv=>some (cellsOf v)
def iZ(T:c6)(t:TypeId):cq:=aq (T.info t) λi=>some i.size
def jg(x:Option cl):cl:=Option.casesOn (motive:=λ_=>cl) x .bad (λc=>c)
def DM(T:c6)(l:List Field):Option (List (Nat×Nat)):=List.rec (motive:=λ_=>Option (List (Nat×Nat))) (some []) (λf _ a=>aq (iZ T f.type) λs=>aq a λr=>some ((f.offset,s)::r)) l
def Gh(T:c6)(t:TypeId)(parts:List (Nat×Operand)):cl:=
 jg<|aq (zeroCells T t) λc=>aq (T.bI t) λd=>match d with
  |.struct f=>aq (DM T f.toList) λg=>aq (placesOf (dw g) parts) λr=>some (.pu r.2 (λb=>aq (q4 r.1 b c) λa=>some (.val (.agg a))))
  |.array _ e=>aq (iZ T e) λs=>aq (placesOf (λi=>some (fz i s,s)) parts) λr=>some (.pu r.2 (λb=>aq (q4 r.1 b c) λa=>some (.val (.agg a))))
  |_=>aN
def Gi(T:c6)(t:TypeId)(a:Nat)(parts:List (Nat×Operand)):cl:=
 jg<|aq (T.bI t) λd=>match d with
  |.slice e=>aq (iZ T e) λs=>aX (b6 (fz a s) 16777216)<|aq (zeroCells T e) λb=>
    aq (placesOf (λi=>some (fz i s,s)) parts) λr=>
    aX (bt (c_ b) s)<|some (.pu r.2 (λf=>aq (q4 r.1 f (rep b a)) λc=>some (.new c (.slice a a))))
  |_=>aN
def gZ(v:V):cq:=match v with
 |.int _ (.ofNat n)=>some n
 |_=>aN
def zf(a:Nat)(l:au):Option bh:=match l with
 |[.ptr b o]=>some (.val (.ptr b (gY o a)))
 |[.dY c k]=>some (.val (.dY c (gY k a)))
 |_=>aN
def BC(c:Bool)(d:Nat)(a:au)(b:Nat):Option bh:=Bool.casesOn (motive:=λ_=>Option bh) c (aq (dw a b) λv=>some (.val v)) (aq (cW (eH a b) d) λr=>some (.val (.agg r)))
def A2(a:Bool)(d c:Nat)(l:au):Option bh:=match l with
 |[.agg b]=>BC a d b c
 |_=>aN
def dO(a:cq)(c:Nat)(l:au):Option bh:=match l with
 |[x,i]=>aq (gZ i) λi=>(match x with
  |.ptr b o=>aq a λn=>aX (b6 (Nat.succ i) n) (some (.val (.ptr b (gY o (fz i c)))))
  |.slice b o e _=>Option.casesOn (motive:=λ_=>Option bh) a (aX (b6 (Nat.succ i) e) (some (.val (.ptr b (gY o (fz i c)))))) (λ_=>aN)
  |.row n d=>Option.casesOn (motive:=λ_=>Option bh) a (aX (b6 (Nat.succ i) n) (some (.val (.dY d (fz i c))))) (λ_=>aN)
  |.dY d k=>aq a λn=>aX (b6 (Nat.succ i) n) (some (.val (.dY d (gY k (fz i c)))))
  |_=>aN)
 |_=>aN
def oa(l:au):Option bh:=match l with
 |[.str s,i]=>aq (gZ i) λi=>aq (dw s i) λb=>some (.val (.int .u8 (.ofNat b.toNat)))
 |_=>aN
def kK(lo hi:Option V)(a b:Nat):Option (Nat×Nat):=
 aq (Option.casesOn (motive:=λ_=>cq) hi (some a) gZ) λh=>
 aq (Option.casesOn (motive:=λ_=>cq) lo (some 0) gZ) λl=>
 aX (and (b6 h b) (b6 l h)) (some (l,h))
def fN(n:Nat):Bool:=bt n 0
def yj(s:aW)(lo hi:Option V):Option bh:=aq (kK lo hi (c_ s) (c_ s)) λr=>aq (cW (eH s r.1) (ko r.2 r.1)) λt=>some (.val (.str t))
def qA(b o c a d:Nat)(lo hi:Option V):Option bh:=aq (kK lo hi c a) λr=>some (.val (.slice b (Bool.casesOn (motive:=λ_=>Nat) (bt a r.1) (gY o (fz r.1 d)) o) (ko r.2 r.1) (.known (ko a r.1))))
def B4(b o a k:Nat)(lo hi:Option V):Option bh:=aq (kK lo hi a k) λr=>aX (fN r.1) (some (.val (.slice b o r.2 (.least k))))
def yl(b o a:Nat)(c:Cap)(d:Nat)(lo hi:Option V):Option bh:=
 aq (kK lo hi a a) λr=>
  Bool.casesOn (motive:=λ_=>Option bh) (or (fN r.1) (b6 (Nat.succ r.1) a)) (some (.val .emp))
   (some (.val (.slice b (gY o (fz r.1 d)) (ko r.2 r.1) c)))
def zX(a n:Nat)(b:au)(lo hi mx:Option V):Option bh:=
 Option.casesOn (motive:=λ_=>Option bh) mx
  (aq (kK lo hi n n) λr=>Bool.casesOn (motive:=λ_=>Option bh) (bt r.1 r.2)
    (aq (cW (eH b (fz r.1 a)) (fz (ko r.2 r.1) a)) λt=>some (.val (.row (ko r.2 r.1) t)))
    (some (.val (.row 0 []))))
  (λm=>aq (gZ m) λm=>aX (fN m) (aq (kK lo hi n 0) λ_=>some (.val .ie)))
def B3(d:Nat)(x:V)(lo hi mx:Option V):Option bh:=
 match x with
 |.str s=>Option.casesOn (motive:=λ_=>Option bh) mx (yj s lo hi) (λ_=>aN)
 |.slice b o a c=>Option.casesOn (motive:=λ_=>Option bh) mx
   (match c with
    |.known n=>qA b o a n d lo hi
    |.grown f=>aX (bt f d) (yl b o a c d lo hi)
    |.oY=>yl b o a c d lo hi
    |.least k=>B4 b o a k lo hi)
   (λm=>aq (gZ m) λm=>aX (b6 m (match c with|.known n=>n|_=>a)) (qA b o a m d lo hi))
 |.aA=>aq (kK lo hi 0 0) λ_=>Option.casesOn (motive:=λ_=>Option bh) mx (some (.val .aA)) (λm=>aq (gZ m) λm=>aX (fN m) (some (.val .aA)))
 |.emp=>aq (kK lo hi 0 0) λ_=>Option.casesOn (motive:=λ_=>Option bh) mx (some (.val .emp)) (λm=>aq (gZ m) λm=>aX (fN m) (some (.val .emp)))
 |.row n e=>zX d n e lo hi mx
 |_=>aN
def ov(x:V)(lo hi mx:Option V):Option bh:=match x with
 |.str s=>B3 1 (.str s) lo hi mx
 |_=>aN
def kG(a:Nat)(x:V)(lo hi mx:Option V):Option bh:=match x with
 |.str _=>aN
 |x=>B3 a x lo hi mx
def ou(n a:Nat)(x:V)(lo hi mx:Option V):Option bh:=
 match x with
 |.ptr b o=>Option.casesOn (motive:=λ_=>Option bh) mx (qA b o n n a lo hi)
   (λm=>aq (gZ m) λm=>aX (b6 m n) (qA b o n m a lo hi))
 |_=>aN
def slice3(g:V->Option V->Option V->Option V->Option bh)(lo hi mx:Bool)(l:au):Option bh:=
 match l with
 |x::r=>
  let a:=Bool.casesOn (motive:=λ_=>Option V×au) lo (aN,r) (match r with|y::r=>(some y,r)|[]=>(aN,[]));let b:=Bool.casesOn (motive:=λ_=>Option V×au) hi (aN,a.2) (match a.2 with|y::r=>(some y,r)|[]=>(aN,[]));let c:=Bool.casesOn (motive:=λ_=>Option V×au) mx (aN,b.2) (match b.2 with|y::r=>(some y,r)|[]=>(aN,[]))
  aX (or (!mx) hi) (g x a.1 b.1 c.1)
 |[]=>aN
def l_(bytes:Nat)(a:au)(l:au):Option bh:=match l with
 |[x,y]=>aq (gZ x) λn=>aq (gZ y) λc=>aX (and (b6 n c) (b6 (fz c bytes) 1099511627776)) (aX (b6 c 1099511627776) (some (.new (rep a c) (.slice n c))))
 |_=>aN
def lI(v:V):cq:=match v with
 |.slice _ _ n _=>some n
 |.aA=>some 0
 |.emp=>some 0
 |.str s=>some (c_ s)
 |.row n _=>some n
 |.ie=>some 0
 |_=>aN
def lmap{b:Type}(c:f->b)(l:List f):List b:=List.rec (motive:=λ_=>List b) [] (λa _ d=>c a::d) l
def eu(H:ah)(a n:Nat)(v:V):Option au:=match v with
 |.slice b o _ _=>H.dz b o (fz n a)
 |.aA=>aX (fN n) (some [])
 |.emp=>aX (fN n) (some [])
 |.str s=>aX (bt a 1)<|aq (cW s n) λt=>some (lmap (λb=>.int .u8 (.ofNat b.toNat)) t)
 |.row _ c=>cW c (fz n a)
 |.ie=>aX (fN n) (some [])
 |_=>aN
def lG(H:ah)(c b:Nat)(a:au):Option (V×ah):=some (.slice H.ag 0 b (.grown c),(H.push (.cells a (Nat.succ H.ag))).push (.bV H.ag H.ag))
def jx(a bytes:Nat):Bool:=and (b6 a 1099511627776) (b6 (fz a bytes) 1099511627776)
def oJ(H:ah)(e:Nat)(b d:Nat)(a:au):Option (V×ah):=
 dU.casesOn (motive:=λ_=>Option (V×ah)) (H.get b) aN
  (λ_ g=>dU.casesOn (motive:=λ_=>Option (V×ah)) (H.get g) aN (λ_ _=>aN)
    (λc _=>aX (and (bt c b) (!(fN g))) (some (.slice H.ag 0 d (.grown e),(H.push (.cells a g)).set g (.bV H.ag H.ag))))
    (λ_=>aN))
  (λ_ _=>aN) (λ_=>aN)
def ku(d bytes:Nat)(s:V)(n:Nat)(e:au)(H:ah):Option (V×ah):=
 Bool.casesOn (motive:=λ_=>Option (V×ah)) (fN n)
  (match s with
   |.aA=>aX (jx n bytes) (lG H d n e)
   |.ie=>aX (jx n bytes) (lG H d n e)
   |.slice b o a c=>
    aX (jx (gY a n) bytes)<|
    (match c with
     |.known k=>Bool.casesOn (motive:=λ_=>Option (V×ah)) (b6 (gY a n) k)
       (aq (H.dz b o (fz a d)) λf=>lG H d (gY a n) (dJ f e))
       (aq (H.fe b (gY o (fz a d)) e) λH=>some (.slice b o (gY a n) c,H))
     |.grown g=>aX (and (bt g d) (dI e)) (aq (H.dz b o (fz a d)) λf=>oJ H d b (gY a n) (dJ f e))
     |.oY=>aN
     |.least k=>aX (b6 (gY a n) k) (aq (H.fe b (gY o (fz a d)) e) λH=>some (.slice b o (gY a n) (.least k),H)))
   |_=>aN)
  (match s with
   |.aA=>some (s,H)
   |.slice .. =>some (s,H)
   |.emp=>some (s,H)
   |.row _ _=>some (s,H)
   |.ie=>some (s,H)
   |_=>aN)
def fU(a bytes:Nat)(l:au)(H:ah):Option (V×ah):=match l with
 |[s,x]=>aq (lI x) λn=>aq (eu H a n x) λb=>ku a bytes s n b H
 |_=>aN
def Az(bytes:Nat)(a:au)(l:au):Option bh:=match l with
 |[s,x]=>(match s with
  |.aA=>aq (gZ x) λn=>aX (and (b6 1 n) (jx n bytes)) (some (.new (rep a n) (.least n)))
  |_=>aN)
 |_=>aN
def oP(a:Nat)(l:au)(H:ah):Option (V×ah):=match l with
 |[.slice b o c _,x]=>aq (lI x) λm=>aq (eu H a (ej m c) x) λd=>aq (H.fe b o d) λH=>some (.int .i64 (.ofNat (ej m c)),H)
 |[.aA,x]=>aq (lI x) λ_=>aq (eu H a 0 x) λ_=>some (.int .i64 (.ofNat 0),H)
 |[.emp,x]=>aq (lI x) λ_=>aq (eu H a 0 x) λ_=>some (.int .i64 (.ofNat 0),H)
 |_=>aN
def tL(T:c6)(c:TypeId):Option (V->V->Option Bool):=
 aq (yO T c) λds=>some (λa b=>match a with
  |.agg x=>(match b with|.agg y=>oM ds x y|_=>aN)
  |_=>aN)
def rm(f:V->V->Option Bool)(k:V)(a:List (V×V)):Nat->Option (Option (Nat×V)):=
 List.rec (motive:=λ_=>Nat->Option (Option (Nat×V))) (λ_=>some aN)
  (λe _ b i=>aq (f k e.1) λr=>Bool.casesOn (motive:=λ_=>Option (Option (Nat×V))) r (b (Nat.succ i)) (some (some (i,e.2)))) a
def ah.j9(H:ah)(b:Nat):Option (List (V×V)):=dU.casesOn (motive:=λ_=>Option (List (V×V))) (H.get b) aN (λ_ _=>aN) (λ_ _=>aN) (λo=>match o with|.map a=>some a|_=>aN)
def wF(a:Bool)(v:V)(there:Bool):V:=match a with
 |true=>.aH [v,.bool there]
 |false=>v
def wD(f:V->V->Option Bool)(z:V)(a:Bool)(l:au)(H:ah):Option V:=match l with
 |[m,k]=>aq (f k k) λ_=>(match m with
  |.lf=>some (wF a z false)
  |.map b=>aq (H.j9 b) λc=>aq (rm f k c 0) λr=>Option.casesOn (motive:=λ_=>Option V) r (some (wF a z false)) (λq=>some (wF a q.2 true))
  |_=>aN)
 |_=>aN
def Bg(l:List f)(x:f):Nat->List f:=List.rec (motive:=λ_=>Nat->List f) (λ_=>[]) (λa l b n=>Nat.rec (motive:=λ_=>List f) (x::l) (λm _=>a::b m) n) l
def Aa(f:V->V->Option Bool)(l:au)(H:ah):Option (V×ah):=match l with
 |[.map b,k,v]=>aq (f k k) λ_=>aq (H.j9 b) λa=>aq (rm f k a 0) λr=>
   Option.casesOn (motive:=λ_=>Option (V×ah)) r (some (V.undef,H.set b (.bW (.map (dJ a [(k,v)])))))
    (λq=>some (V.undef,H.set b (.bW (.map (Bg a (k,v) q.1)))))
 |_=>aN
def IW(l:au)(H:ah):Option (V×ah):=match l with
 |[]=>some (.map H.ag,H.push (.bW (.map [])))
 |_=>aN
def wA(l:au)(H:ah):Option V:=match l with
 |[.lf]=>some (.int .i64 (.ofNat 0))
 |[.map b]=>aq (H.j9 b) λa=>some (.int .i64 (.ofNat (c_ a)))
 |_=>aN
def upto(n:Nat):av:=Nat.rec (motive:=λ_=>av) [] (λm a=>m::a) n
def BL(l:au)(H:ah):Option (V×ah):=match l with
 |[.map b]=>aq (H.j9 b) λa=>some (.ptr H.ag 0,H.push (.bW (.iter b (c_ a) (upto (c_ a)) aN (c_ a))))
 |_=>aN
def uS(l:au)(H:ah):Option V:=match l with
 |[.ptr b 0]=>(match H.get b with
  |.bW (.iter m _ _ c d)=>aq (H.j9 m) λa=>aX (bt (c_ a) d)<|aq c λi=>aq (dw a i) λe=>some (.aH [e.1,e.2])
  |_=>aN)
 |_=>aN
def bytesOf(l:au):Option aW:=
 List.rec (motive:=λ_=>Option aW) (some []) (λv _ a=>(match v with
  |.int .u8 (.ofNat n)=>aX (b6 (Nat.succ n) 256) (aq a λr=>some (iD n::r))
  |_=>aN)) l
def vt(l:au)(H:ah):Option V:=match l with
 |[.aA]=>some (.str [])
 |[.emp]=>some (.str [])
 |[.slice b o c _]=>aq (H.dz b o c) λa=>aq (bytesOf a) λs=>some (.str s)
 |[.row n a]=>aq (cW a n) λa=>aq (bytesOf a) λs=>some (.str s)
 |_=>aN
def Cg(l:au):Option bh:=match l with
 |[.str s]=>some (.new (lmap (λb=>.int .u8 (.ofNat b.toNat)) s) (.bytes (c_ s)))
 |_=>aN
def tB(T:c6)(c b:TypeId)(a:List (Fr->V)):cl:=
 match T.bI c,T.bI b with
 |some (.int _),some (.int k)=>.pu a (λl=>match l with|[.int _ n]=>jL k (aE k n)|_=>aN)
 |some .string,some (.slice e)=>(match T.bI e with|some (.int .u8)=>.pu a Cg|_=>.bad)
 |some (.slice e),some .string=>(match T.bI e with|some (.int .u8)=>.rd a vt|_=>.bad)
 |_,_=>.bad
def un(f:V->Option bh)(l:au):Option bh:=match l with
 |[v]=>f v
 |_=>aN
def Bc(v:V):Option bh:=match v with
 |.str s=>jL .i64 (.ofNat (c_ s))
 |_=>aN
def di(v:V):Option bh:=match v with
 |.slice _ _ n _=>jL .i64 (.ofNat n)
 |.aA=>jL .i64 (.ofNat 0)
 |.emp=>jL .i64 (.ofNat 0)
 |.row n _=>jL .i64 (.ofNat n)
 |.ie=>jL .i64 (.ofNat 0)
 |_=>aN
def AI(v:V):Option bh:=match v with
 |.slice _ _ _ c=>(match c with|.known n=>jL .i64 (.ofNat n)|_=>aN)
 |.aA=>jL .i64 (.ofNat 0)
 |.ie=>jL .i64 (.ofNat 0)
 |_=>aN
def max2(a b:V):Option V:=match a,b with
 |.int k x,.int _ y=>some (.int k (match l7 x y with|true=>y|false=>x))
 |_,_=>aN
def min2(a b:V):Option V:=match a,b with
 |.int k x,.int _ y=>some (.int k (match l7 y x with|true=>y|false=>x))
 |_,_=>aN
def q6(f:V->V->Option V)(l:au):Option bh:=match l with
 |[]=>aN
 |x::r=>aq (List.rec (motive:=λ_=>V->Option V) (λa=>some a) (λy _ b a=>aq (f a y) b) r x) λv=>some (.val v)
def alG(T:c6)(a:List TypeId):Option Bool:=aq (dw a 1) λt=>aq (T.bI t) λd=>match d with
 |.int _=>some true
 |_=>some false
def CY(T:c6)(b:Builtin)(c:List TypeId)(a:List (Fr->V)):cl:=
 jg<|aq (dw c 0) λt=>aq (T.bI t) λd=>match b with
  |.len=>(match d with
    |.string=>some (.pu a (un Bc))
    |.slice _=>some (.pu a (un di))
    |.array n _=>some (.pu a (un λ_=>jL .i64 (.ofNat n)))
    |.map _ _=>some (.rd a wA)
    |_=>aN)
  |.cap=>(match d with
    |.slice _=>some (.pu a (un AI))
    |_=>aN)
  |.max=>some (.pu a (q6 max2))
  |.min=>some (.pu a (q6 min2))
  |.append=>(match d with
    |.slice e=>aq (T.info e) λi=>aq (alG T c) λz=>aq (zeroCells T e) λf=>aX (bt (c_ f) i.size)
      (Bool.casesOn (motive:=λ_=>Option cl) z (some (.hG a (fU i.size i.bytes))) (some (.pu a (Az i.bytes f))))
    |_=>aN)
  |.copy=>(match d with
    |.slice e=>aq (iZ T e) λs=>some (.hG a (oP s))
    |_=>aN)
  |_=>aN
def oL(l:au):Option (qW×au):=match l with
 |.func f first captured::args=>some (.fn f,dJ first (dJ args captured))
 |.jZ b::args=>some (.jZ b,args)
 |_=>aN
def Co(v:V):cq:=match v with
 |.int .u64 (.ofNat n)=>some n
 |_=>aN
def Br(l:au):Option (Nat×Nat×Nat):=match l with
 |[a,b,c]=>aq (Co a) λx=>aq (Co b) λy=>aq (Co c) λz=>some (x,y,z)
 |_=>aN
def cy(l:au):Option bh:=aq (Br l) λt=>aX (b6 t.2.2 1)
 (some (.val (.aH [.int .u64 (.ofNat (Nat.mod (gY (gY t.1 t.2.1) t.2.2) 18446744073709551616)),.int .u64 (.ofNat (Nat.div (gY (gY t.1 t.2.1) t.2.2) 18446744073709551616))])))
def cx(l:au):Option bh:=aq (Br l) λt=>aX (b6 t.2.2 1)
 (some (.val (.aH [.int .u64 (.ofNat (Nat.mod (ko (ko (gY t.1 18446744073709551616) t.2.1) t.2.2) 18446744073709551616)),.int .u64 (.ofNat (Bool.casesOn (motive:=λ_=>Nat) (b6 (gY t.2.1 t.2.2) t.1) 1 0))])))
def H9(a:String):Option (au->Option bh):=
 if a= "math/bits.Add64" then some cy
 else if a= "math/bits.Sub64" then some cx
 else aN
abbrev fh:=aY (Option Func)
def My(N:fh)(T:c6)(c:Call):cl:=
 jg<|match c.callee with
  |.value (.func f)=>aq (N.get aN f) λfn=>aq (jA c.args.toList) λa=>Option.casesOn (motive:=λ_=>Option cl) fn.body
    (aX (fn.origin== "") (aq (H9 fn.name) λg=>some (.pu a g)))
    (λ_=>some (.call a (λl=>some (.fn f,l))))
  |.value x=>aq (jA (x::c.args.toList)) λa=>some (.call a oL)
  |.builtin b=>aq (jA c.args.toList) λa=>some (CY T b c.argTypes.toList a)
  |.invoke _ _=>aN
def Bt(l:au):Option bh:=match l with
 |[.ptr b o]=>some (.val (.ptr b o))
 |[.dY a k]=>some (.val (.dY a k))
 |_=>aN
def BE(l:au):Option bh:=match l with
 |[.bool true,x,_]=>some (.val x)
 |[.bool false,_,x]=>some (.val x)
 |_=>aN
def AY(i:Nat)(l:au):Option bh:=match l with
 |[.aH a]=>aq (dw a i) λv=>some (.val v)
 |_=>aN
def Sn(l:au):Option bh:=match l with
 |[x]=>some (.val x)
 |_=>aN
def Lp(l:au)(H:ah):Option (V×ah):=match l with
 |[x]=>some (x,H)
 |_=>aN
def T0(n:Nat)(l:au):Option (au×au):=aq (cW l n) λa=>some (a,eH l n)
def lp(x:Option Operand):List Operand:=match x with|some y=>[y]|aN=>[]
def cop(N:fh)(T:c6)(o:Op):cl:=match o with
 |.move x=>jg (aq (gQ x) λx=>some (.pu [x] Sn))
 |.assign x=>jg (aq (gQ x) λx=>some (.hG [x] Lp))
 |.pick c a b=>jg (aq (jA [c,a,b]) λh=>some (.pu h BE))
 |.alloc t=>jg (aq (zeroCells T t) λj=>some (.pu [] (λl=>match l with|[]=>some (.new j .ptr)|_=>aN)))
 |.box _ x=>jg (aq (gQ x) λx=>some (.pu [x] (λl=>match l with|[v]=>aX (bM v) (some (.new (cellsOf v) .ptr))|_=>aN)))
 |.build t parts=>Gh T t parts.toList
 |.buildSlice t n parts=>Gi T t n parts.toList
 |.load t a=>jg (aq (gQ a) λx=>aq (T.isAgg t) λg=>aq (iZ T t) λs=>some (.rd [x] (jd g s)))
 |.store t a v=>jg (aq (jA [a,v]) λh=>aq (iZ T t) λs=>some (.hG h (qB s)))
 |.nilCheck x=>jg (aq (gQ x) λx=>some (.pu [x] Bt))
 |.binOp u t x y _=>jg (aq (jA [x,y]) λh=>some (yS T u t h))
 |.unOp u _ x=>jg (aq (gQ x) λx=>match u with
   |.neg=>some (.pu [x] (λl=>match l with|[.int k n]=>jL k (aE k (Int.sub (.ofNat 0) n))|_=>aN))
   |.not=>some (.pu [x] (λl=>match l with|[.bool b]=>jw (!b)|_=>aN))
   |_=>aN)
 |.convert s d x=>jg (aq (gQ x) λx=>some (tB T s d [x]))
 |.makeFunc (.func f) first captured=>jg (aq (jA (dJ first.toList captured.toList)) λh=>some (.pu h (λl=>aq (T0 (c_ first.toList) l) λr=>some (.val (.func f r.1 r.2)))))
 |.makeSlice t l c=>jg (aq (jA [l,c]) λh=>aq (T.bI t) λd=>match d with
   |.slice e=>aq (T.info e) λi=>aq (zeroCells T e) λj=>aX (bt (c_ j) i.size) (some (.pu h (l_ i.bytes j)))
   |_=>aN)
 |.slice t x lo hi mx=>jg (aq (jA (x::dJ (lp lo) (dJ (lp hi) (lp mx)))) λh=>aq (T.bI t) λd=>match d with
   |.string=>some (.pu h (slice3 ov lo.isSome hi.isSome mx.isSome))
   |.slice e=>aq (iZ T e) λs=>some (.pu h (slice3 (kG s) lo.isSome hi.isSome mx.isSome))
   |.array n e=>aq (iZ T e) λs=>some (.pu h (slice3 (ou n s) lo.isSome hi.isSome mx.isSome))
   |_=>aN)
 |.fieldAddr s x f=>jg (aq (gQ x) λx=>aq (T.bI s) λd=>match d with
   |.struct p=>aq (dw p.toList f) λf=>aq (iZ T f.type) λn=>aX (!(fN n)) (some (.pu [x] (zf f.offset)))
   |_=>aN)
 |.field s x f=>jg (aq (gQ x) λx=>aq (T.bI s) λd=>match d with
   |.struct p=>aq (dw p.toList f) λf=>aq (iZ T f.type) λn=>aq (T.isAgg f.type) λg=>some (.pu [x] (A2 g n f.offset))
   |_=>aN)
 |.indexAddr t x i=>jg (aq (jA [x,i]) λh=>aq (T.bI t) λd=>match d with
   |.slice e=>aq (iZ T e) λs=>some (.pu h (dO aN s))
   |.array n e=>aq (iZ T e) λs=>some (.pu h (dO (some n) s))
   |_=>aN)
 |.index t x i=>jg (aq (jA [x,i]) λh=>aq (T.bI t) λd=>match d with
   |.string=>some (.pu h oa)
   |_=>aN)
 |.extract t i=>jg (aq (gQ t) λx=>some (.pu [x] (AY i)))
 |.makeMap _ r=>(match r with|aN=>.hG [] IW|some _=>.bad)
 |.lookup t x i A=>jg (aq (jA [x,i]) λh=>aq (T.bI t) λd=>match d with
   |.map q e=>aq (tL T q) λf=>aq (T.info e) λi=>aq i.zero λz=>aq (ow 20 z) λz=>some (.rd h (wD f z A))
   |_=>aN)
 |.mapUpdate t m k v=>jg (aq (jA [m,k,v]) λh=>aq (T.bI t) λd=>match d with
   |.map q _=>aq (tL T q) λf=>some (.hG h (Aa f))
   |_=>aN)
 |.range t x=>jg (aq (gQ x) λx=>aq (T.bI t) λd=>match d with
   |.map _ _=>some (.hG [x] BL)
   |_=>aN)
 |.next x w=>jg (aq (gQ x) λx=>some (Bool.casesOn (motive:=λ_=>cl) w (.od x) .bad))
 |.entry x=>jg (aq (gQ x) λx=>some (.rd [x] uS))
 |.call c=>My N T c
 |_=>.bad
structure Step where
 want:Fr->Option Bool
 dst:Option Nat
 cop:cl
inductive dW where
 |ex (s:Step)
 |re (s:Step)
inductive X where
 |norm|exit (id:Nat)|ret
abbrev b5:=X->Fr->ah->Prop
abbrev cm:=Fr->ah->Prop
inductive jl where
 |fail
 |ok (x:X) (F:Fr) (H:ah)
def put(F:Fr)(d:cq)(v:V):Fr:=Option.casesOn (motive:=λ_=>Fr) d F (λt=>aY.vn V.undef v (path t) F)
def vals(a:List (Fr->V))(F:Fr):au:=lmap (λx=>x F) a
abbrev kW:=qW->au->ah->Option (V×ah)
def exec(cf:kW)(s:Step)(F:Fr)(H:ah):Option (Fr×ah):=
 Option.casesOn (motive:=λ_=>Option (Fr×ah)) (s.want F) aN λe=>Bool.casesOn (motive:=λ_=>Option (Fr×ah)) e (some (put F s.dst V.undef,H))
  (match s.cop with
   |.bad=>aN
   |.pu a g=>aq (g (vals a F)) λr=>bh.casesOn (motive:=λ_=>Option (Fr×ah)) r (λv=>some (put F s.dst v,H)) (λb d=>some (put F s.dst (d.mk H.ag),H.push (.cells b 0)))
   |.rd a g=>aq (g (vals a F) H) λv=>some (put F s.dst v,H)
   |.hG a g=>aq (g (vals a F) H) λr=>some (put F s.dst r.1,r.2)
   |.call a g=>aq (g (vals a F)) λc=>aq (cf c.1 c.2 H) λr=>some (put F s.dst r.1,r.2)
   |.od _=>aN)
def again(s:Step)(F:Fr)(H:ah):Bool:=
 Option.casesOn (motive:=λ_=>Bool) (s.want F) false λa=>Bool.casesOn (motive:=λ_=>Bool) a true
  (match s.cop with
   |.rd b g=>Option.casesOn (motive:=λ_=>Bool) (g (vals b F) H) false (λv=>Option.casesOn (motive:=λ_=>Bool) s.dst true (λt=>uf 20 v (aY.nw V.undef (path t) F)))
   |_=>true)
def vj(cf:kW)(l:List dW):Fr->ah->Option (Fr×ah):=
 List.rec (motive:=λ_=>Fr->ah->Option (Fr×ah)) (λF H=>some (F,H))
  (λi _ a F H=>dW.casesOn (motive:=λ_=>Option (Fr×ah)) i (λs=>aq (exec cf s F H) λr=>a r.1 r.2) (λs=>aX (again s F H) (a F H))) l
def lV(e:Edge):Bool:=match e.ground with
 |.textOnly _=>false
 |.gcOnly _=>false
 |_=>true
def Ba(b:f->Bool)(l:List f):Bool:=List.rec (motive:=λ_=>Bool) false (λa _ c=>or (b a) c) l
def nC(b:f->Bool)(l:List f):Bool:=List.rec (motive:=λ_=>Bool) true (λa _ c=>and (b a) c) l
def l9(c:f->Bool)(l:List f):List f:=List.rec (motive:=λ_=>List f) [] (λa _ b=>Bool.casesOn (motive:=λ_=>List f) (c a) b (a::b)) l
def jK(m i:Nat):Bool:=bt (Nat.mod (Nat.shiftRight m i) 2) 1
def sA(b:av)(c:List Edge):Nat:=List.rec (motive:=λ_=>Nat) 0 (λe _ a=>Bool.casesOn (motive:=λ_=>Nat) (lV e) a (Nat.lor a (Nat.lor (Nat.shiftLeft 1 e.on) (tO 0 b e.on)))) c
def masks(c:List Oper):av->av:=List.rec (motive:=λ_=>av->av) (λa=>a) (λo _ b a=>b (dJ a [sA a o.after.toList])) c
def n5(b:List Oper):Nat->Bool:=List.rec (motive:=λ_=>Nat->Bool) (λ_=>true) (λo _ a i=>and (nC (λe=>or (!(lV e)) (b6 (Nat.succ e.on) i)) o.after.toList) (a (Nat.succ i))) b
def D2(t:Nat)(x:Operand):Bool:=match x with
 |.tmp u=>bt t u
 |_=>false
def v8(a:List Oper)(j:Nat):cq:=aq (dw a j) λo=>o.dst
def Et(t:Nat)(d:cq):Bool:=match d with|some u=>bt t u|aN=>false
def reads(a:List Oper)(o:Oper)(t:Nat):Bool:=or (Ba (D2 t) o.op.operands.toList) (match o.guard with|some (j,_)=>Et t (v8 a j)|aN=>false)
def mN(a:List Oper)(o:Oper)(t:Nat):Bool:=or (Et t o.dst) (reads a o t)
structure Info where
 ix:Nat
 o:Oper
 mask:Nat
 s:Step
 hM:Bool
def q8(b:Bool)(v:V):Option Bool:=match v with
 |.bool x=>some (Bool.casesOn (motive:=λ_=>Bool) b (!x) x)
 |.any=>aN
 |.cell=>aN
 |_=>some false
def nK(a:List Oper)(g:Option (Nat×Bool)):Fr->Option Bool:=match g with
 |aN=>λ_=>some true
 |some (j,b)=>Option.casesOn (motive:=λ_=>Fr->Option Bool) (v8 a j) (λ_=>some false)
   (λt F=>q8 b (aY.nw V.undef (path t) F))
def stepOf(N:fh)(T:c6)(a:List Oper)(o:Oper):Step:=⟨nK a o.guard,o.dst,cop N T o.op⟩
def su(c:cl):Bool:=match c with|.hG _ _=>true|.call _ _=>true|.od _=>true|_=>false
def zo(c:cl):Bool:=match c with|.rd _ _=>true|_=>false
def infos(N:fh)(T:c6)(a:List Oper)(c:List Oper):av->Nat->List Info:=
 List.rec (motive:=λ_=>av->Nat->List Info) (λ_ _=>[])
  (λo _ b ms i=>⟨i,o,tO 0 ms 0,stepOf N T a o,su (cop N T o.op)⟩::b (eH ms 1) (Nat.succ i)) c
def vr(a:List Oper)(l:List Info):Bool:=
 nC (λk=>match k.o.dst with
  |aN=>k.hM
  |some t=>and (or k.hM (!(reads a k.o t))) (nC (λi=>or (bt i.ix k.ix) (or (!(mN a i.o t)) (or (jK i.mask k.ix) (and k.hM (jK k.mask i.ix))))) l)) l
def C6(l:List Info):Bool:=List.rec (motive:=λ_=>Bool) true (λa l c=>and c (List.casesOn (motive:=λ_=>Bool) l true (λb _=>jK b.mask a.ix))) l
def oQ(b:List Info)(m:Nat):Nat:=List.rec (motive:=λ_=>Nat) 0 (λe _ a=>Bool.casesOn (motive:=λ_=>Nat) (jK m e.ix) a (Nat.succ a)) b
def nX(l a:List Info)(j:Nat):List Info:=l9 (λi=>and (!i.hM) (bt (oQ a i.mask) j)) l
def B9(l a:List Info)(r:List Info):Nat->List dW:=
 List.rec (motive:=λ_=>Nat->List dW) (λj=>lmap (λi=>dW.ex i.s) (nX l a j))
  (λe _ b j=>dJ (lmap (λi=>dW.ex i.s) (nX l a j)) (dW.ex e.s::dJ
    (lmap (λi=>dW.re i.s) (l9 (λi=>and (!i.hM) (and (zo i.s.cop) (and (b6 (oQ a i.mask) j) (!(jK e.mask i.ix))))) l)) (b (Nat.succ j)))) r
def plan(N:fh)(T:c6)(a:List Oper)(c:Bool):Option (List dW):=
 Bool.casesOn (motive:=λ_=>Option (List dW)) c (some (lmap (λo=>dW.ex (stepOf N T a o)) a))
  (let l:=infos N T a a (masks a []) 0
   let b:=l9 (λi=>i.hM) l
   aX (and (n5 a 0) (and (vr a l) (C6 b))) (some (B9 l b b 0)))
def sC(G n:Nat)(x:Operand):Bool:=match x with
 |.tmp t=>b6 (Nat.succ t) n
 |.global g=>b6 (Nat.succ g) G
 |_=>true
def Jd(n:Nat)(d:cq):Bool:=match d with|some t=>b6 (Nat.succ t) n|aN=>true
def oZ(G n:Nat)(o:Oper):Bool:=and (Jd n o.dst) (nC (sC G n) o.op.operands.toList)
def codeOk(G n:Nat)(c:Code):Bool:=
 Code.rec (motive:=λ_=>Bool) true (λ_ d _=>nC (oZ G n) d.toList) (λ_ _ a b=>and a b) (λx _ _ a b=>and (sC G n x) (and a b)) (λ_ _ a=>a) (λ_ a=>a)
  (λg _ _ _ a b=>and (sC G n g) (and a b)) (λ_=>true) (λ_ a=>a) (λ_=>true) (λ_=>true) true (λ_=>true) c
def JQ(n:Nat)(r:ResultVar):Bool:=match r with
 |.tmp t=>b6 (Nat.succ t) n
 |.cell a _=>b6 (Nat.succ a) n
def uU(G:Nat)(fn:Func)(c:Code):Bool:=and (!(fn.name== "runtime.NumGoroutine")) (and (codeOk G fn.ntmps c) (nC (JQ fn.ntmps) fn.results.toList))
def JR(T:c6)(F:Fr)(H:ah)(r:ResultVar):Option V:=match r with
 |.tmp t=>some (aY.nw V.undef (path t) F)
 |.cell a t=>aq (T.isAgg t) λg=>aq (iZ T t) λs=>jd g s [aY.nw V.undef (path a) F] H
def tS(T:c6)(F:Fr)(H:ah)(l:List ResultVar):Option au:=List.rec (motive:=λ_=>Option au) (some []) (λr _ a=>aq (JR T F H r) λv=>aq a λr=>some (v::r)) l
def qw(l:au):V:=match l with
 |[v]=>v
 |l=>.aH l
def mV(args:au):Nat->Fr->Fr:=List.rec (motive:=λ_=>Nat->Fr->Fr) (λ_ F=>F) (λv _ a i F=>a (Nat.succ i) (aY.vn V.undef v (path i) F)) args
abbrev xp:=Nat->Bool->Code->Fr->ah->jl
def Gt(G:Nat)(N:fh)(T:c6)(run:xp)(f:FuncId)(args:au)(H:ah):Option (V×ah):=
 aq (N.get aN f) λfn=>aq fn.body λc=>aX (and (uU G fn c) (b6 (c_ args) fn.ntmps))
  (jl.casesOn (motive:=λ_=>Option (V×ah)) (run fn.ntmps false c (mV args 0 .nil) H) aN
    (λx F H=>(match x with
      |.exit _=>aN
      |_=>aq (tS T F H fn.results.toList) λl=>some (qw l,H))))
def yU(G:Nat)(N:fh)(T:c6)(O:kW)(run:xp):kW:=λt args H=>
 Option.casesOn (motive:=λ_=>Option (V×ah)) (O t args H)
  (qW.casesOn (motive:=λ_=>Option (V×ah)) t (λf=>Gt G N T run f args H) (λ_=>aN)) some
def andThen(r:jl)(k:Fr->ah->jl):jl:=jl.casesOn (motive:=λ_=>jl) r .fail (λx F H=>X.casesOn (motive:=λ_=>jl) x (k F H) (λid=>.ok (.exit id) F H) (.ok .ret F H))
def Rp(id:Nat)(r:jl):jl:=
 jl.casesOn (motive:=λ_=>jl) r .fail (λx F H=>X.casesOn (motive:=λ_=>jl) x (.ok .norm F H)
  (λi=>Bool.casesOn (motive:=λ_=>jl) (bt i id) (.ok (.exit i) F H) (.ok .norm F H)) (.ok .ret F H))
def Tn(o:Option (Fr×ah)):jl:=Option.casesOn (motive:=λ_=>jl) o .fail (λr=>.ok .norm r.1 r.2)
def atL(N:fh)(T:c6)(cf:kW)(b:Array Oper)(a:Bool)(F:Fr)(H:ah):jl:=Tn (aq (plan N T b.toList a) λl=>vj cf l F H)
def JZ(run:Code->Fr->ah->jl)(c:Operand)(a b:Code)(F:Fr)(H:ah):jl:=
 Option.casesOn (motive:=λ_=>jl) (gQ c) .fail (λx=>(match x F with
  |.bool t=>Bool.casesOn (motive:=λ_=>jl) t (run b F H) (run a F H)
  |_=>.fail))
def run(G:Nat)(N:fh)(T:c6)(O:kW)(f:Nat):xp:=
 Nat.rec (motive:=λ_=>xp) (λ_ _ _ _ _=>.fail) (λ_ d n rd c F H=>
  Code.casesOn (motive:=λ_=>jl) c (.ok .norm F H)
   (λ_ g e=>atL N T (yU G N T O d) g e F H)
   (λa b=>andThen (d n rd a F H) (d n rd b))
   (λx a b=>JZ (d n rd) x a b F H)
   (λid b=>Rp id (d n rd b F H))
   (λb=>andThen (d n rd b F H) (d n rd (.loop b)))
   (λ_ _ _ _=>.fail)
   (λid=>.ok (.exit id) F H)
   (λc=>Bool.casesOn (motive:=λ_=>jl) rd (d n false c F H) .fail)
   (λ_=>.ok .norm F H)
   (λ_=>.fail)
   (.ok .ret F H)
   (λ_=>.fail)) f
def Gs(G:Nat)(N:fh)(T:c6)(O:kW)(a:Nat):kW:=yU G N T O (run G N T O a)
def sB:kW:=λ_ _ _=>aN
def ah.qn(H:ah)(b:Nat):Option uk:=dU.casesOn (motive:=λ_=>Option uk) (H.get b) aN (λ_ _=>aN) (λ_ _=>aN) (λo=>match o with|.loop l=>some l|_=>aN)
def params0(c:av):au->Fr->Option Fr:=
 List.rec (motive:=λ_=>au->Fr->Option Fr) (λa F=>List.casesOn (motive:=λ_=>Option Fr) a (some F) (λ_ _=>aN))
  (λp _ b a F=>List.casesOn (motive:=λ_=>Option Fr) a aN (λv a=>b a (aY.vn V.undef v (path p) F))) c
def u5(x:X):Option Code:=match x with
 |.norm=>aN
 |.exit id=>some (.exit id)
 |.ret=>some .ret
def E5(x:X):Nat:=match x with|.norm=>0|_=>2
def DZ(x:X):Bool:=match x with|.norm=>true|_=>false
def yq(l:List f):Nat->aY (Option f)->aY (Option f):=List.rec (motive:=λ_=>Nat->aY (Option f)->aY (Option f)) (λ_ t=>t) (λa _ b i t=>b (Nat.succ i) (aY.vn aN (some a) (path i) t)) l
def QM(P:Program):fh:=yq P.funcs.toList 0 .nil
def Uv(P:Program)(a:TypeId->Option (List TypeDesc)):c6:=⟨yq P.types.toList 0 .nil,a⟩
structure Loc where
 c:Nat
 base:Nat
 lK:Nat
structure aL where
 f:Nat->Option Loc
 im:Nat->Option Obj
instance:CoeFun aL (λ_=>Nat->Option Loc):=⟨aL.f⟩
def Obj.at(x:Obj)(i:Nat)(v:Value):Prop:=∀(w:World) (c:Nat),w.heap[c]? =some x->w.cell? ⟨c,i,none⟩=some v
def MH(b:Cap)(a o c:Nat):Prop:=match b with
 |.known n=>a=n
 |.grown d=>o+a*d<=c
 |.oY=>True
 |.least n=>n<=a
mutual
inductive aP (C:aL):V->Value->Prop
 |bool (b:Bool):aP C (.bool b) (.bool b)
 |int (k:IntKind) (n:Int):aP C (.int k n) (.int k n)
 |str (s:List UInt8):aP C (.str s) (.string ⟨⟨s⟩⟩)
 |ptr {b o:Nat}{l:Loc} (h:C b=some l):aP C (.ptr b o) (.pointer (some ⟨l.c,l.base+o,none⟩))
 |jV:aP C .jV (.pointer none)
 |slice {b o len:Nat}{cap:Cap}{cap':Nat}{l:Loc} (h:C b=some l) (h1:len<=cap') (h2:MH cap cap' o l.lK):
   aP C (.slice b o len cap) (.slice (some ⟨l.c,l.base+o,none⟩) len cap')
 |aA:aP C .aA (.slice none 0 0)
 |emp (a:Addr) (cap':Nat):aP C .emp (.slice (some a) 0 cap')
 |map {b:Nat}{l:Loc} (h:C b=some l):aP C (.map b) (.map (some l.c))
 |lf:aP C .lf (.map none)
 |func (f:FuncId) {xs ys:List V}{xs' ys':List Value} (h1:bu C xs xs') (h2:bu C ys ys'):aP C (.func f xs ys) (.func (.func f) ⟨xs'⟩ ⟨ys'⟩)
 |mc:aP C .mc .nilFunc
 |me:aP C .me .nilIface
 |agg {xs:List V}{xs':List Value} (h:bu C xs xs'):aP C (.agg xs) (.agg ⟨xs'⟩)
 |aH {xs:List V}{xs':List Value} (h:bu C xs xs'):aP C (.aH xs) (.tuple ⟨xs'⟩)
 |any (v':Value):aP C .any v'
 |cell {v':Value} (h:v'.oneCell'=true):aP C .cell v'
 |fQ (a:Option Addr) (cap':Nat) (h:a=none->cap'=0):aP C (.row 0 []) (.slice a 0 cap')
 |row {n c o cap':Nat}{cs:List V}{vs:List Value}{x:Obj} (h:C.im c=some x) (h1:bu C cs vs) (h2:∀i v,vs[i]? =some v->Obj.at x (o+i) v) (h3:n<=cap'):aP C (.row n cs) (.slice (some ⟨c,o,none⟩) n cap')
 |dY {k c o:Nat}{cs:List V}{vs:List Value}{x:Obj} (h:C.im c=some x) (h1:bu C cs vs) (h2:∀i v,vs[i]? =some v->Obj.at x (o+i) v):aP C (.dY cs k) (.pointer (some ⟨c,o+k,none⟩))
 |ie (a:Option Addr):aP C .ie (.slice a 0 0)
 |jZ {b:Nat}{l:Loc} (h:C b=some l):aP C (.jZ b) (.func (.yield l.c) #[] #[])
inductive bu (C:aL):List V->List Value->Prop
 |nil:bu C [] []
 |cons {v:V}{v':Value}{vs:List V}{vs':List Value} (h:aP C v v') (h':bu C vs vs'):bu C (v::vs) (v'::vs')
end
structure aL.le (C D:aL):Prop where
 f:∀b l,C b=some l->D b=some l
 im:∀c x,C.im c=some x->D.im c=some x
instance{C D:aL}:CoeFun (C.le D) (λ_=>∀b l,C b=some l->D b=some l):=⟨aL.le.f⟩
theorem aL.le_refl(C:aL):C.le C:=⟨λ_ _ h=>h,λ_ _ h=>h⟩
variable{o:aL}
theorem aL.le_trans{D d:aL}(h:o.le D)(a:D.le d):o.le d:=⟨λb l e=>a b l (h b l e),λc x e=>a.im c x (h.im c x e)⟩
variable{w:Value}
def aP.mono{D:aL}(h:o.le D){v:V}(r:aP o v w):aP D v w:=by
 refine aP.rec (motive_1:=λv w _=>aP D v w) (motive_2:=λv w _=>bu D v w) ?_ ?_ ?_ ?_ ?_ ?_ ?_ ?_ ?_ ?_ ?_ ?_ ?_ ?_ ?_ ?_ ?_ ?_ ?_ ?_ ?_ ?_ ?_ ?_ r
 .exactλb=>.bool b
 .exactλk n=>.int k n
 .exactλs=>.str s
 .exactλe=>.ptr (h _ _ e)
 .exact .jV
 .exactλe g d=>.slice (h _ _ e) g d
 .exact .aA
 .exactλa c=>.emp a c
 .exactλe=>.map (h _ _ e)
 .exact .lf
 .exactλf _ _ _ _ _ _ a b=>.func f a b
 .exact .mc
 .exact .me
 .exactλ_ a=>.agg a
 .exactλ_ a=>.aH a
 .exactλw=>.any w
 .exactλe=>.cell e
 .exactλa c h=>.fQ a c h
 .exactλe _ d i a=>.row (h.im _ _ e) a d i
 .exactλe _ d a=>.dY (h.im _ _ e) a d
 .exactλa=>.ie a
 .exactλe=>.jZ (h _ _ e)
 .exact .nil
 .exactλ_ _ a b=>.cons a b
def bu.mono{D:aL}(h:o.le D):∀ {v:au}{c:List Value},bu o v c->bu D v c
 |_,_,.nil=>.nil
 |_,_,.cons a b=>.cons (a.mono h) (b.mono h)
def bu.length:∀ {v:au}{a:List Value},bu o v a->v.length=a.length
 |_,_,.nil=>rfl
 |_,_,.cons _ b=>by simp[b.length]
theorem bu.get:∀ {v:au}{c:List Value},bu o v c->∀(i:Nat) (x:V),v[i]? =some x->∃d,c[i]? =some d/\aP o x d
 |_,_,.nil,i,x,h=>by simp at h
 |_,_,.cons a b,0,x,h=>by grind
 |_,_,.cons _ b,i+1,x,h=>by simpa using b.get i x (by simpa using h)
def bu.append:∀ {v:au}{d:List Value}{u:au}{c:List Value},bu o v d->bu o u c->bu o (v++u) (d++c)
 |_,_,_,_,.nil,h=>h
 |_,_,_,_,.cons a b,h=>.cons a (b.append h)
def bu.take(n:Nat):∀ {v:au}{c:List Value},bu o v c->bu o (v.take n) (c.take n):=by
 induction n with
 |zero=>intro v c _;simpa using bu.nil
 |succ n d=>intro v c h;cases h with
  |nil=>simpa using bu.nil
  |cons a b=>exact .cons a (d b)
theorem bu.drop(n:Nat):∀ {v:au}{c:List Value},bu o v c->bu o (v.drop n) (c.drop n):=by
 induction n with
 |zero=>grind
 |succ n d=>intro v c h;cases h with
  |nil=>simpa using bu.nil
  |cons a b=>exact d b
theorem iu(l:List f):∀n,dw l n=l[n]? :=by
 induction l with
 |nil=>intro n;rfl
 |cons a l b=>intro n;cases n with
  |zero=>rfl
  |succ n=>exact(b n).trans aI
theorem Ef(d:f)(l:List f):∀n,tO d l n=(l[n]?).getD d:=by
 induction l with
 |nil=>intro n;rfl
 |cons a l b=>intro n;cases n with
  |zero=>rfl
  |succ n=>exact(b n).trans aI
theorem iw(l:List f):c_ l=af l:=by
 induction l with
 |nil=>rfl
 |cons a l b=>exact congrArg Nat.succ b
theorem l8(l:List f):∀n,eH l n=l.drop n:=by
 induction l with
 |nil=>intro n;cases n<;>rfl
 |cons a l b=>intro n;cases n with
  |zero=>rfl
  |succ n=>exact b n
theorem iW(x y:List f):dJ x y=x++y:=by
 induction x with
 |nil=>rfl
 |cons a x b=>exact congrArg (a:: ·) b
theorem aqh{d:Type}(b:f->d)(x:List f):lmap b x=x.map b:=by
 induction x with
 |nil=>rfl
 |cons a x c=>exact congrArg (b a:: ·) c
theorem fB(l:List f):∀n,cW l n=if n<=af l then some (l.take n)else none:=by
 induction l with
 |nil=>intro n;cases n with
  |zero=>rfl
  |succ n=>rfl
 |cons a l b=>intro n;cases n with
  |zero=>rfl
  |succ n=>
   show Option.casesOn (motive:=λ_=>Option (List f)) (cW l n) none (λr=>some (a::r))=_;rw[b n];by_cases h:n<=af l
   .simp[h]
   .simp[h]
def Sa(b:List f):∀l,oV b l=if(af b)<=af l then some (b++l.drop b.length)else none:=by
 induction b with
 |nil=>intro l;simp;rfl
 |cons x b c=>intro l;cases l with
  |nil=>rfl
  |cons a l=>
   show Option.casesOn (motive:=λ_=>Option (List f)) (oV b l) none (λr=>some (x::r))=_;rw[c l];by_cases h:af b<=af l
   .simp[h]
   .simp[h]
theorem mH(b:List f)(l:List f):∀n,dj b l n=if n+af b<=af l then some (l.take n++b++l.drop (n+af b))else none:=by
 induction l with
 |nil=>intro n;cases n with
  |zero=>show oV b []=_;rw[Sa];simp
  |succ n=>simp;rfl
 |cons a l c=>intro n;cases n with
  |zero=>show oV b (a::l)=_;rw[Sa];simp
  |succ n=>
   show Option.casesOn (motive:=λ_=>Option (List f)) (dj b l n) none (λr=>some (a::r))=_;rw[c n];by_cases h:n+af b<=af l
   .have e:n+1+af b=(n+af b)+1:=aa;simp[h,e]
   .have:¬n+1+af b<=af l+1:=aa;simp[h,this]
def aB{c:Type}{x:Option f}{b:f->Option c}{y:c}:aq x b=some y↔∃a,x=some a/\b a=some y:=by
 cases x with
 |none=>simp[aq]
 |some a=>simp[aq]
variable{n:Bool}
def dA{x:Option f}{y:f}:aX n x=some y↔n=true/\x=some y:=by cases n<;>simp[aX]
theorem beq_eq(a b:Nat):bt a b=true↔a=b:=⟨Nat.eq_of_beq_eq_true,λh=>by simp_all⟩
def fV(a b:Nat):b6 a b=true↔a<=b:=⟨jI,Nat.ble_eq_true_of_le⟩
def xY(a b:IntKind):iF a b=decide (a=b):=by cases a<;>cases b<;>rfl
def tK(a b:Int):n_ a b=decide (a=b):=by rw[Bool.eq_iff_iff];cases a<;>cases b<;>simp[n_]<;>omega
theorem qj(a b:Int):l7 a b=decide (a<b):=by rw[Bool.eq_iff_iff];cases a<;>cases b<;>simp[l7]<;>omega
theorem Ky(a b:UInt8):o8 a b=decide (a=b):=by rw[Bool.eq_iff_iff];simp[o8,UInt8.toNat_inj]
theorem Gd(k:IntKind):(2:Int)^k.bits=(eR k:Int):=by cases k<;>rfl
theorem JP(M:Nat)(b:0<M)(x:Int):(iy M x:Int)=x%(M:Int):=by
 cases x with
 |ofNat a=>show((a%M:Nat):Int)=_;simp
 |negSucc a=>show((M-1-a%M:Nat):Int)=_;have h:=fD a b;simp_all [Int.negSucc_emod];omega
def atl(M:Nat)(a:0<M)(x:Int):iy M x<M:=by have h:=JP M a x;have:=Int.emod_lt_of_pos x (aa:(0:Int)<M);omega
theorem IY(k:IntKind):0<eR k:=by cases k<;>decide
theorem CV(M m half:Nat)(b:M=2*half)(h:m<M):pC true M m=if(m:Int)≥(half:Int)then(m:Int)-(M:Int)else(m:Int):=by
 unfold pC;by_cases a:M<=2*m
 .have e:and true (b6 M (fz 2 m))=true:=by rw[Bool.true_and];exact(fV _ _).2 a
  rw[e,ay aa]
  grind
 .have e:and true (b6 M (fz 2 m))=false:=by rw[Bool.true_and];exact mo.2 (λh=>a ((fV _ _).1 h))
  simp_all;omega
def Gb(k:IntKind)(m:Nat)(h:m<eR k):pC (rH k) (eR k) m=k.wrap (m:Int):=by
 unfold uv;rw[Gd];have a:(m:Int)%(eR k:Int)=m:=Int.emod_eq_of_lt aa aa;simp only[a];cases k
 case i8=>exact(CV 256 m 128 rfl h).trans (by simp[rR,rQ,eR])
 case i16=>exact(CV 65536 m 32768 rfl h).trans (by simp[rR,rQ,eR])
 case i32=>exact(CV 4294967296 m 2147483648 rfl h).trans (by simp[rR,rQ,eR])
 case i64=>exact(CV 18446744073709551616 m 9223372036854775808 rfl h).trans (by simp[rR,rQ,eR])
 all_goals rfl
theorem rN(k:IntKind)(x:Int):aE k x=k.wrap x:=by
 unfold aE;rw[Gb k _ (atl _ (IY k) x)];unfold uv
 grind [JP,IY,Gd,Int.emod_emod_of_dvd,Int.dvd_refl]
def Ud(a:Option TypeDesc)(d:TypeDesc):Bool:=match d with
 |.string=>(match a with|some .string=>true|_=>false)
 |.int k=>(match a with|some (.int l)=>iF l k|_=>false)
 |_=>false
variable{E:TypeDesc}
def avo{a:Option TypeDesc}(h:Ud a E=true):a=some E:=by
 cases E<;>first|(cases h;done)|skip
 all_goals cases a with
 |none=>cases h
 |some a=>cases a<;>first|(cases h;done)|rfl|exact congrArg (λk=>some (TypeDesc.int k)) (of_decide_eq_true ((xY _ _).symm.trans h))
def Cz(P:Program):List Field->List TypeDesc->Nat->Bool
 |[],[],_=>true
 |f::a,d::ds,i=>(!(f.name== "_"))&&(bt f.offset i&&(Ud (P.underlying f.type) d&&Cz P a ds (i+1)))
 |_,_,_=>false
def FO(P:Program)(t:TypeId)(ds:List TypeDesc):Prop:=P.underlying t=some (.struct (P.fieldsOf t))/\P.stoodInHeld t=false/\P.eqGuardType P.depth t=false/\Cz P (P.fieldsOf t).toList ds 0=true
structure dH (P:Program) (T:c6):Prop where
 info:∀t i,T.info t=some i->P.info? t=some i
 zW:∀t ds,T.zW t=some ds->FO P t ds
variable{e:TypeId}
def dH.bI{P:Program}{T:c6}(h:dH P T)(a:T.bI e=some E):P.underlying e=some E:=by
 unfold c6.bI at a;obtain⟨i,hi,a⟩:=aB.1 a;unfold Program.underlying;rw[h.info e i hi];obtain⟨b,m,l,bytes,g,d,fa,z,f,ms⟩:=i;cases b<;>simp only[]at a⊢
 case named k u=>obtain⟨j,c,a⟩:=aB.1 a;rw[h.info u j c];simpa using a
 all_goals exact a
def Um{f:Value->Option V}(a:∀v x,f v=some x->aP o x v):∀(l:List Value) (r:au),wX f l=some r->bu o r l:=by
 intro l;induction l with
 |nil=>intro r h;cases h;exact .nil
 |cons v l d=>intro r h;obtain⟨x,b,h⟩:=aB.1 (show aq (f v) (λx=>aq (wX f l) λr=>some (x::r))=some r from h);obtain⟨y,c,h⟩:=aB.1 h;cases h;exact .cons (a v x b) (d y c)
def Fg(C:aL):∀(n:Nat) (v:Value) (x:V),ow n v=some x->aP C x v:=by
 intro n;induction n with
 |zero=>intro v x h;cases h
 |succ n f=>
  intro v x h;cases v with
  |bool b=>cases h;exact .bool b
  |int k m=>cases h;exact .int k m
  |string s=>obtain⟨⟨l⟩⟩:=s;cases h;exact .str l
  |pointer a=>cases a with
   |none=>cases h;exact .jV
   |some a=>cases h
  |slice a l c=>cases a with
   |none=>cases l with
    |zero=>cases c with
     |zero=>cases h;exact .aA
     |succ c=>cases h
    |succ l=>cases h
   |some a=>cases h
  |map r=>cases r with
   |none=>cases h;exact .lf
   |some a=>cases h
  |nilFunc=>cases h;exact .mc
  |nilIface=>cases h;exact .me
  |agg d=>obtain⟨y,e,h⟩:=aB.1 (show aq (wX (ow n) d.toList) (λr=>some (V.agg r))=some x from h);cases h;obtain⟨l⟩:=d;exact .agg (Um f _ _ e)
  |tuple d=>obtain⟨y,e,h⟩:=aB.1 (show aq (wX (ow n) d.toList) (λr=>some (V.aH r))=some x from h);cases h;obtain⟨l⟩:=d;exact .aH (Um f _ _ e)
  |_=>cases h
def jt(C:aL)(F:Fr)(a:Array Value):Prop:=∀t,t<a.size->aP C (F.get V.undef t) (a.getD t undef)
variable{j:Fr}
def jt.mono{D:aL}(h:o.le D){a:Array Value}(r:jt o j a):jt D j a:=λt b=>(r t b).mono h
def jt.put{a:Act}(r:jt o j a.tmps){d:cq}{v:V}(f:aP o v w):jt o (put j d v) (a.put d w).tmps:=by
 cases d with
 |none=>exact r
 |some d=>
  intro t c;have b:t<a.tmps.size:=by simpa [Act.put]using c
  show aP o ((j.set V.undef d v).get V.undef t) _;rw[aY.aT];by_cases e:d=t
  .subst e;rw[ay rfl];simpa [Act.put,b]using f
  .rw[ao e];have:=r t b;simpa [Act.put,Array.getElem?_setIfInBounds_ne e]using this
def kJ(C:aL)(F:Fr)(A:Operand->Value)(l:List Operand):Prop:=∀x∈l,∀f,gQ x=some f->aP C (f F) (A x)
def mq(G:Nat)(C:aL):Prop:=∀g,g<G->∃a,C g=some ⟨g,0,a⟩
variable{a:Nat}
def mq.mono{D:aL}(h:o.le D)(g:mq a o):mq a D:=λb c=>let⟨l,e⟩:=g b c;⟨l,h _ _ e⟩
def SL(G n:Nat)(x:Operand):Prop:=match x with
 |.tmp t=>t<n
 |.global g=>g<G
 |_=>True
variable{i:Operand}
def Ji{a:Act}(l:jt o j a.tmps)(k:mq d o)(b:SL d a.tmps.size i){f:Fr->V}(h:gQ i=some f):
 aP o (f j) (a.eval i):=by
 cases i with
 |tmp t=>cases h;exact l t b
 |const v=>obtain⟨y,m,h⟩:=aB.1 (show aq (ow 20 v) (λy=>some (λ_=>y))=some f from h);cases h;exact Fg o _ _ _ m
 |global g=>cases h;obtain⟨n,e⟩:=k g b;exact .ptr e
 |func c=>cases h;exact .func c .nil .nil
variable{t:List (Fr->V)}
def qq{l:List Operand}(h:jA l=some t):∀ {C:aL}{F:Fr}{A:Operand->Value},kJ C F A l->bu C (vals t F) (l.map A):=by
 induction l generalizing t with
 |nil=>cases h;exactλ_=>.nil
 |cons x l e=>obtain⟨f,b,h⟩:=aB.1 (show aq (gQ x) (λf=>aq (jA l) λr=>some (f::r))=some t from h);obtain⟨r,c,h⟩:=aB.1 h;cases h;intro C F A a;exact .cons (a x aI f b) (e c (λy d=>a y (by simp[d])))
def sZ(w:World)(c i:Nat):Prop:=(∃v,w.cell? ⟨c,i,none⟩=some v)/\w.frozen? ⟨c,i,none⟩=false
structure iQ (w w':World):Prop where
 tape:w'.tape=w.tape
 os:w'.os=w.os
 output:w'.output=w.output
 free:∀ {c i:Nat},sZ w c i->sZ w' c i
 shape:∀(c:Nat) (cs:Array Value) (t:TypeId) (fr:Nat×Nat),w.heap[c]? =some (.cells cs t fr)->∃cs':Array Value,w'.heap[c]? =some (.cells cs' t fr)/\cs'.size=cs.size
theorem iQ.refl(w:World):iQ w w:=⟨rfl,rfl,rfl,λh=>h,λ_ a _ _ h=>⟨a,h,rfl⟩⟩
variable{r:World}
def iQ.trans{a b:World}(h:iQ a b)(c:iQ b r):iQ a r:=⟨c.tape.trans h.tape,c.os.trans h.os,c.output.trans h.output,λx=>c.free (h.free x),λk g t d x=>let⟨e,l,i⟩:=h.shape k g t d x;let⟨f,m,j⟩:=c.shape k e t d l;⟨f,m,j.trans i⟩⟩
theorem sZ.of_heap{w':World}(h:w'.heap[a]? =r.heap[a]?)(b:sZ r a d):sZ w' a d:=by unfold sZ World.cell? World.frozen? at*;rw[h];exact b
theorem sZ.lt(h:sZ r a d):a<r.heap.size:=by
 obtain⟨⟨v,b⟩,_⟩:=h;unfold World.cell? at b
 grind
theorem iQ.alloc(w:World)(x:Obj):iQ w (w.alloc x):=⟨rfl,rfl,rfl,λh=>sZ.of_heap (by
 have:=h.lt;show(w.heap.push x)[_]? =_
 grind) h,λc a _ _ h=>⟨a,by
 show(w.heap.push x)[c]? =_
 grind,rfl⟩⟩
def s7(C:aL)(a:List (V×V))(b:List MapEntry):Prop:=b.length=af a/\∀i k v,a[i]? =some (k,v)->∃e:MapEntry,b[i]? =some e/\aP C k e.key/\aP C v e.val/\e.born=i
def T4:Nat->LoopState
 |0=>.ready
 |1=>.busy
 |2=>.done
 |_=>.exhausted
def wK(C:aL)(w:World)(a:Nat):p8->Prop
 |.map b=>∃d,w.heap[a]? =some (.map ⟨d⟩ b.length)/\s7 C b d
 |.iter m since left g e=>∃f seen,C m=some f/\w.heap[a]? =some (.mapIter (some f.c) since ⟨seen⟩ e)/\(seen≠[]->0<e)/\seen.getLast?=g/\(∀i,i<since->i∉seen->i∈left)/\(∀i∈left,i<since/\i∉seen)
 |.ro x=>w.heap[a]? =some x
 |.loop L=>∃r:Loop,w.heap[a]? =some (.loop r)/\jt C L.F r.tmps/\r.tmps.size=L.n/\r.params=⟨L.params⟩/\r.assign=L.assign/\r.body=L.body/\r.state=T4 L.st/\r.pending=L.pM
variable{P:List (V×V)}
def s7.mono{D:aL}(h:o.le D){b:List MapEntry}(r:s7 o P b):s7 D P b:=⟨r.1,λi k v e=>let⟨x,c,d,f,g⟩:=r.2 i k v e;⟨x,c,d.mono h,f.mono h,g⟩⟩
def wK.mono{D:aL}(h:o.le D){l:World}(g:l.heap[d]? =r.heap[d]?){k:p8}(i:wK o r d k):wK D l d k:=by
 cases k with
 |map p=>obtain⟨x,c,f⟩:=i;exact⟨x,g.trans c,f.mono h⟩
 |iter m a b n e=>obtain⟨x,s,c,f,j⟩:=i;exact⟨x,s,h _ _ c,g.trans f,j⟩
 |ro x=>exact g.trans i
 |loop L=>obtain⟨x,c,f,j⟩:=i;exact⟨x,g.trans c,f.mono h,j⟩
structure rP (C:aL) (H:ah) (w:World) (c:Nat) (x:Obj):Prop where
 obj:w.heap[c]? =some x
 kind:∃cs t fr,x=.cells cs t fr
 off:∀b l,C b=some l->l.c=c->H.get b=.none
variable{b:ah}
def rP.lt{x:Obj}(h:rP o b r a x):a<r.heap.size:=(Array.getElem?_eq_some_iff.1 h.obj).1
def rP.keep{D:aL}{H':ah}{e:World}{x:Obj}(h:rP o b r a x)(f:e.heap[a]? =r.heap[a]?)(g:∀d l,D d=some l->l.c=a->H'.get d=.none):rP D H' e a x:=⟨f.trans h.obj,h.kind,g⟩
variable{T:Loc}
def rP.xO{x:Obj}(h:rP o b r a x)(f:o d=some T)(g:b.get d≠ .none):T.c≠a:=λe=>g (h.off d T f e)
structure Rel (C:aL) (H:ah) (w:World):Prop where
 cell:∀ {b:Nat}{l:Loc}{cs:List V}{g i:Nat}{v:V},C b=some l->H.get b=.cells cs g->H.gr b g=true->cs[i]? =some v->∃v',w.cell? ⟨l.c,l.base+i,none⟩=some v'/\aP C v v'
 room:∀ {b:Nat}{l:Loc}{i:Nat},C b=some l->i<l.lK->(∃v',w.cell? ⟨l.c,l.base+i,none⟩=some v')/\w.frozen? ⟨l.c,l.base+i,none⟩=false
 len:∀ {b:Nat}{l:Loc}{cs:List V}{g:Nat},C b=some l->H.get b=.cells cs g->af cs<=l.lK
 inj:∀ {b b':Nat}{l l':Loc},C b=some l->C b'=some l'->l.c=l'.c->b≠b'->(∃cs cs' g,g≠0/\H.get b=.cells cs g/\H.get b'=.cells cs' g)\/(H.get b=.none/\H.get b'=.none)
 top:∀ {b:Nat},H.ag<=b->C b=none/\H.get b=.none
 loc:∀ {b:Nat}{l:Loc},C b=some l->l.c<w.heap.size
 mem:∀ {b:Nat}{cs:List V}{g leaf br:Nat},H.get b=.cells cs g->g≠0->H.get g=.bV leaf br->b<=leaf
 n7:∀ {g leaf br:Nat},H.get g=.bV leaf br->br<=leaf
 bW:∀ {b:Nat}{l:Loc}{o:p8},C b=some l->H.get b=.bW o->l.base=0/\wK C w l.c o
 gf:∀ {c:Nat}{x:Obj},C.im c=some x->rP C H w c x
 n9:∀ {b:Nat}{cs:List V}{g:Nat},H.get b=.cells cs g->g<H.ag
structure Ext (C:aL) (H:ah) (w:World) (D:aL) (H':ah) (w':World):Prop where
 rel:Rel D H' w'
 le:C.le D
 fresh:∀ {b:Nat}{l:Loc},C b=none->D b=some l->H.ag<=b/\(w.heap.size<=l.c\/∃b0 l0,C b0=some l0/\l0.c=l.c)
 pK:∀ {b:Nat},b<H.ag->C b=none->(∀x y,H.get b≠ .bV x y)->H'.get b=H.get b
 ag:H.ag<=H'.ag
 nA:∀ {c:Nat},c<w.heap.size->(∀b l,C b=some l->l.c≠c)->w'.heap[c]? =w.heap[c]?
 size:w.heap.size<=w'.heap.size
 same:iQ w w'
 kO:∀ {b:Nat}{l:Loc},C b=some l->H.get b=.none->H'.get b=.none/\w'.heap[l.c]? =w.heap[l.c]?
 oR:∀(c:Nat) (x:Obj),D.im c=some x->C.im c=some x\/w.heap.size<=c\/∃b l,C b=some l/\l.c=c/\H.get b≠ .none
theorem Ext.refl(h:Rel o b r):Ext o b r o b r:=⟨h,aL.le_refl o,λa c=>absurd (a.symm.trans c) aI,λ_ _ _=>rfl,aJ _,λ_ _=>rfl,aJ _,iQ.refl r,λ_ h=>⟨h,rfl⟩,λ_ _ e=>.inl e⟩
variable{I:ah}
theorem Ext.trans{D G:aL}{s w:ah}{E F:World}(h:Ext o I r D s E)(a:Ext D s E G w F):Ext o I r G w F:=by
 refine⟨a.rel,aL.le_trans h.le a.le,?_,?_,c5 h.ag a.ag,?_,c5 h.size a.size,h.same.trans a.same,λf p=>let⟨J,K⟩:=h.kO f p;let⟨M,N⟩:=a.kO (h.le _ _ f) J;⟨M,N.trans K⟩,?_⟩
 rotate_left 3
 .intro c x e;rcases a.oR c x e with e|e|⟨b,l,f,p,y⟩
  .exact h.oR c x e
  .exact .inr (.inl (c5 h.size e))
  .cases d:o b with
   |some v=>have:=h.le b v d;rw[f]at this;cases this;exact .inr (.inr ⟨b,l,d,p,λk=>y (h.kO d k).1⟩)
   |none=>
    rcases(h.fresh d f).2 with k|⟨j,n,k,z⟩
    .omega
    .refine .inr (.inr ⟨j,n,k,z.trans p,λH=>?_⟩);rcases h.rel.inj f (h.le j n k) z.symm (λS=>by grind)with⟨Q,R,g,_,_,bX⟩|⟨P,_⟩
     .rw[(h.kO k H).1]at bX;cases bX
     .exact y P
 .intro b l q i;cases m:D b with
  |some v=>have:=a.le b v m;rw[this]at i;cases i;exact h.fresh q m
  |none=>
   obtain⟨t,u⟩:=a.fresh m i;refine⟨c5 h.ag t,?_⟩;rcases u with u|⟨j,n,d,f⟩
   .exact .inl (c5 h.size u)
   .cases A:o j with
    |some O=>
     have:=h.le j O A
     grind
    |none=>
     obtain⟨_,T⟩:=h.fresh A d
     grind
 .intro b m q C;have i:s.get b=I.get b:=h.pK m q C;have t:D b=none:=by
   cases e:D b with
   |none=>rfl
   |some l=>exact absurd (h.fresh q e).1 aa
  rw[<-i];exact a.pK (fy m h.ag) t (by rw[i];exact C)
 .intro c B L;rw[<-h.nA B L];refine a.nA (fy B h.size) (λb l e=>?_);cases d:o b with
  |some n=>
   have:=h.le b n d
   grind
  |none=>
   rcases(h.fresh d e).2 with i|⟨j,n,f,p⟩
   .omega
   grind
structure vQ (C:aL) (Bx:dU) (lK:Nat) (w w':World):Prop where
 size:w'.heap.size=w.heap.size+1
 old:∀c,c<w.heap.size->w'.heap[c]? =w.heap[c]?
 same:iQ w w'
 obj:∃cs,Bx=.cells cs 0/\af cs<=lK/\(∀i v,cs[i]? =some v->∃v',w'.cell? ⟨w.heap.size,i,none⟩=some v'/\aP C v v')/\
  (∀i,i<lK->(∃v',w'.cell? ⟨w.heap.size,i,none⟩=some v')/\w'.frozen? ⟨w.heap.size,i,none⟩=false)
def gk(P:Program)(C:aL)(A:Operand->Value)(o:Oper)(r:bh):Prop:=∀w,match r with
 |.val v=>∃a,(execOp A o).run P w=.ok (.value a) w/\aP C v a
 |.new e f=>∃a d c,(execOp A o).run P w=.ok (.value a) d/\vQ C (.cells e 0) c w d/\∀(D:aL) (b:Nat),D b=some ⟨w.heap.size,0,c⟩->aP D (f.mk b) a
section
variable {P:Program}{C:aL}{A:Operand->Value}{dst:Option Tmp}{ty:TypeId}{pos:String}{after:Array Edge}{guard:Option (Nat×Bool)}
def aua(x:Int)(n:Nat):tU x n=x.fdiv (2^n):=by
 have d:(0:Int)<2^n:=Int.pow_pos ai;rw[Int.fdiv_eq_ediv_of_nonneg _ aa];cases x with
 |ofNat a=>show((a/2^n:Nat):Int)=_;simp
 |negSucc a=>show Int.negSucc (a/2^n)=_;have e:((2:Int)^n)=((2^n:Nat):Int):=aI;have b:=Int.negSucc_ediv a d;rw[b,e];have c:(a:Int).ediv ((2^n:Nat):Int)=((a/2^n:Nat):Int):=rfl;rw[c];omega
def Bu(a b:Nat):ej a b=min a b:=by
 unfold ej;by_cases h:a<=b
 .rw[(fV a b).2 h];simp;omega
 .have:b6 a b=false:=mo.2 (λe=>h ((fV a b).1 e));rw[this];simp;omega
def L7(k:IntKind):h_ k=k.bits:=by cases k<;>rfl
theorem toNat_ofInt(k:IntKind)(x:Int):(BitVec.ofInt k.bits x).toNat=iy (eR k) x:=by grind [JP,IY,Gd,BitVec.toNat_ofInt]
theorem S1(k:IntKind):2^k.bits=eR k:=by cases k<;>rfl
variable{p:IntKind}{q:Int}{H:bh}
theorem amh{o:BinOp}{f:IntKind->Int->IntKind->Int->Option bh}(r:DY o=some f){l:IntKind}{a:Int}(b:f p a l q=some H)
 {s:TypeId}{y:Operand} (c:A i=.int p a) (d:A y=.int l q):gk P C A ⟨dst,.binOp o e i y s,ty,pos,after,guard⟩ H:=by
 intro w;cases o<;>simp only[DY,Option.some.injEq,reduceCtorEq]at r<;>subst r<;>simp only[]at b
 case shl=>
  cases q with
  |ofNat n=>cases b;refine⟨_,?_,.int _ _⟩;simp[execOp,eqGuard,c,d,binOp,Op.shift,rN,Bu,L7];intro h;omega
  |negSucc n=>cases b
 case shr=>
  cases q with
  |ofNat n=>cases b;refine⟨_,?_,.int _ _⟩;simp[execOp,eqGuard,c,d,binOp,Op.shift,aua,Bu,L7];intro h;omega
  |negSucc n=>cases b
 case quo=>obtain⟨j,k⟩:=dA.1 b;clear b;simp[xY,tK]at j;obtain⟨rfl,m⟩:=j;cases k;refine⟨_,?_,.int _ _⟩;simp[execOp,eqGuard,c,d,binOp,Op.intDiv,rN,m]
 case rem=>obtain⟨j,k⟩:=dA.1 b;clear b;simp[xY,tK]at j;obtain⟨rfl,m⟩:=j;cases k;refine⟨_,?_,.int _ _⟩;simp[execOp,eqGuard,c,d,binOp,Op.intDiv,m]
 all_goals
  obtain⟨j,k⟩:=dA.1 b;clear b;rw[xY,decide_eq_true_eq]at j;subst j;cases k
 case add=>have g:aE p (Int.add a q)=p.wrap (a+q):=rN _ _;rw[g];exact⟨_,by simp[execOp,eqGuard,c,d,binOp,Op.intArith],.int _ _⟩
 case sub=>have g:aE p (Int.sub a q)=p.wrap (a-q):=rN _ _;rw[g];exact⟨_,by simp[execOp,eqGuard,c,d,binOp,Op.intArith],.int _ _⟩
 case mul=>have g:aE p (Int.mul a q)=p.wrap (a*q):=rN _ _;rw[g];exact⟨_,by simp[execOp,eqGuard,c,d,binOp,Op.intArith],.int _ _⟩
 case and=>
  refine⟨_,?_,.int _ _⟩;have g:Nat.land (iy (eR p) a) (iy (eR p) q)=(BitVec.ofInt p.bits a&&&BitVec.ofInt p.bits q).toNat:=by rw[BitVec.toNat_and,toNat_ofInt,toNat_ofInt];rfl
  rw[g,Gb p _ (by grind [S1])];simp[execOp,eqGuard,c,d,binOp,Op.intBits]
 case or=>
  refine⟨_,?_,.int _ _⟩;have g:Nat.lor (iy (eR p) a) (iy (eR p) q)=(BitVec.ofInt p.bits a|||BitVec.ofInt p.bits q).toNat:=by rw[BitVec.toNat_or,toNat_ofInt,toNat_ofInt];rfl
  rw[g,Gb p _ (by grind [S1])];simp[execOp,eqGuard,c,d,binOp,Op.intBits]
 all_goals
  refine⟨_,?_,.bool _⟩;simp[execOp,eqGuard,c,d,binOp,Op.intCmp,tK,qj]
  try first
   |rfl
   |(rw[Bool.eq_iff_iff];simp;done)
   |(rw[Bool.eq_iff_iff];simp;omega)
end
section
variable {P:Program}{C:aL}{A:Operand->Value}{dst:Option Tmp}{ty:TypeId}{pos:String}{after:Array Edge}{guard:Option (Nat×Bool)}
theorem RU(x:aW):∀y,gq o8 x y=(x==y):=by
 induction x with
 |nil=>intro y;cases y<;>rfl
 |cons a x c=>intro y;cases y with
  |nil=>rfl
  |cons b y=>
   show and (o8 a b) (gq o8 x y)=_
   grind [Ky]
variable{H:bh}
def au6{b:BinOp}{f:aW->aW->Option bh}(c:E7 b=some f){s u:aW}(a:f s u=some H)
 {m:TypeId}{y:Operand} (g:A i=.string ⟨⟨s⟩⟩) (h:A y=.string ⟨⟨u⟩⟩):gk P C A ⟨dst,.binOp b e i y m,ty,pos,after,guard⟩ H:=by
 intro w;cases b<;>simp only[E7,Option.some.injEq,reduceCtorEq]at c<;>subst c<;>simp only[]at a
 case add=>obtain⟨d,l⟩:=dA.1 a;clear a;cases l;rw[fV,iw,iw]at d;refine⟨_,?_,.str _⟩;have j:=run_string_add_sum (P:=P) w ⟨⟨s⟩⟩ ⟨⟨u⟩⟩ d;have k:=ByteArray.mk_append_mk s u;simp only[execOp,eqGuard,g,h,binOp];simp[j,k,iW]
 all_goals
  cases a;refine⟨_,?_,.bool _⟩;simp[execOp,eqGuard,g,h,binOp,Op.stringOp,RU]
def DD{b:BinOp}{neg:Bool}(p:b=if neg then .neq else .eql){B:TypeId}{y:Operand}{a d:Value}(v:A i=a)(x:A y=d)
 (g:a≠ .nilIface) (h:∀c,a≠ .agg c) (hi:∀k n,a≠ .int k n) (o:∀k n,a≠ .float k n) (j:∀k n m,a≠ .complex k n m) (u:∀s,a≠ .string s) {q:Bool}
 (z:(Op.equalIn (9999+1) e a d).run P r=.ok q r):
 (execOp A ⟨dst,.binOp b e i y B,ty,pos,after,guard⟩).run P r=.ok (.value (.bool (xor neg q))) r:=by
 have l:(Op.equal e a d).run P r=.ok q r:=z;cases neg
 .have f:b=.eql:=p;subst f;simp only[execOp,eqGuard,v,x]
  cases a<;>first
   |exact absurd rfl g
   |exact absurd rfl (h _)
   |exact absurd rfl (hi _ _)
   |exact absurd rfl (o _ _)
   |exact absurd rfl (j _ _ _)
   |exact absurd rfl (u _)
   |(simp[binOp,l])
 .have f:b=.neq:=p;subst f;simp only[execOp,eqGuard,v,x]
  cases a<;>first
   |exact absurd rfl g
   |exact absurd rfl (h _)
   |exact absurd rfl (hi _ _)
   |exact absurd rfl (o _ _)
   |exact absurd rfl (j _ _ _)
   |exact absurd rfl (u _)
   |(simp[binOp,l])
section
variable {t:TypeId}{w:World} (n:Nat)
def ajz(c:P.underlying t=some .bool)(a b:Bool):(Op.equalIn (n+1) t (.bool a) (.bool b)).run P w=.ok (a==b) w:=by simp[Op.equalIn,run_underlying c w]
def ajA(a:P.underlying t=some (.slice e))(b:Option Addr)(p q r s:Nat):(Op.equalIn (n+1) t (.slice none p q) (.slice b r s)).run P w=.ok b.isNone w:=by simp[Op.equalIn,run_underlying a w]
def Qb(a:P.underlying t=some (.slice e))(b:Addr)(p q r s:Nat):(Op.equalIn (n+1) t (.slice (some b) p q) (.slice none r s)).run P w=.ok false w:=by simp[Op.equalIn,run_underlying a w]
end
variable{l:V}
def ajy{z:BinOp}{neg:Bool}(f:z=if neg then .neq else .eql){G:TypeId}(d:P.underlying e=some E){a:V}{m o:Value}(s:aP C a m)(u:aP C l o)
 (F:E=.bool\/∃c,E=.slice c) (v:zg E a=true) (b:H6 neg [a,l]=some H)
 {y:Operand} (g:A i=m) (j:A y=o):gk P C A ⟨dst,.binOp z e i y G,ty,pos,after,guard⟩ H:=by
 intro w;rcases F with rfl|⟨c,rfl⟩
 .cases s<;>simp only[zg,jk]at v;cases u<;>first|(cases b;done)|skip
  rename_i p q;cases b;refine⟨_,DD f g j aI aI aI aI aI aI (ajz 9999 d p q),?_⟩;have:(p==q)=xor p (!q):=by cases p<;>cases q<;>rfl
  rw[this];exact .bool _
 .have x:∀ {n:Nat}{r:au},a=.row n r->l=.aA->n≠0/\H=.val (.bool neg):=by
   intro n r B D;subst B D;have h:Bool.casesOn (motive:=λ_=>Option bh) (bt n 0) (some (.val (.bool neg))) aN=some H:=b;cases k:bt n 0 with
   |true=>rw[k]at h;cases h
   |false=>rw[k]at h;cases h;exact⟨(λc=>by subst c;cases k),rfl⟩
  cases s<;>simp only[zg,jk]at v<;>cases u<;>first|(cases b;done)|skip
  all_goals first
   |exact absurd rfl (x rfl rfl).1
   |(obtain⟨_,rfl⟩:=x rfl rfl
     exact⟨_,DD f g j aI aI aI aI aI aI (Qb 9999 d _ _ _ _ _),by cases neg<;>exact .bool _⟩)
   |skip
  all_goals
   cases b
   first
   |exact⟨_,DD f g j aI aI aI aI aI aI (Qb 9999 d _ _ _ _ _),by cases neg<;>exact .bool _⟩
   |exact⟨_,DD f g j aI aI aI aI aI aI (ajA 9999 d _ _ _ _ _),by cases neg<;>exact .bool _⟩
def arD{b:Bool}(a:A i=.bool b):gk P C A ⟨dst,.unOp .not e i,ty,pos,after,guard⟩ (.val (.bool (!b))):=by intro w;exact⟨_,by simp[execOp,a,Op.unary],.bool _⟩
variable{p:IntKind}{q:Int}
def arj(b:A i=.int p q):gk P C A ⟨dst,.unOp .neg e i,ty,pos,after,guard⟩ (.val (.int p (aE p (Int.sub (.ofNat 0) q)))):=by intro w;have a:aE p (Int.sub (.ofNat 0) q)=p.wrap (0-q):=rN _ _;rw[a];exact⟨_,by simp[execOp,b,Op.unary,Op.intArith],.int _ _⟩
theorem aqW{v:V}(a:aP C v (A i)):gk P C A ⟨dst,.move i,ty,pos,after,guard⟩ (.val v):=λw=>⟨_,by simp[execOp],a⟩
theorem SV{x y:Operand}{b:Bool}(a:A i=.bool b){v:V}(c:aP C v (if b then A x else A y)):gk P C A ⟨dst,.pick i x y,ty,pos,after,guard⟩ (.val v):=by intro w;exact⟨_,by simp[execOp,a,asBool],c⟩
variable{c:au}
theorem ajZ(b:aP C (.aH c) (A i)){v:V}(f:c[a]? =some v):gk P C A ⟨dst,.extract i a,ty,pos,after,guard⟩ (.val v):=by
 intro w;generalize g:A i=y at b
 cases b with
 |aH h=>obtain⟨j,d,e⟩:=h.get a v f;refine⟨j,?_,e⟩;simp[execOp,g,Instr.extract,d]
def Sz{a:Addr}(c:A i=.pointer (some a)){v:V}(b:aP C v (.pointer (some a))):gk P C A ⟨dst,.nilCheck i,ty,pos,after,guard⟩ (.val v):=by intro w;exact⟨_,by simp[execOp,c],b⟩
def XP{f:IntKind}(c:A i=.int f q){d:TypeId}{ds:TypeDesc}(b:P.underlying e=some ds)(a:P.underlying d=some (.int p)):
 gk P C A ⟨dst,.convert e d i,ty,pos,after,guard⟩ (.val (.int p (aE p q))):=by
 intro w;rw[rN];exact⟨_,by simp[execOp,c,convert,run_underlying b,run_underlying a,Conv.intToInt],.int _ _⟩
def aqB{f:FuncId}{d b:Array Operand}{a:au}(h:bu C a (d.toList.map A))(i:bu C c (b.toList.map A)):
 gk P C A ⟨dst,.makeFunc (.func f) d b,ty,pos,after,guard⟩ (.val (.func f a c)):=by
 intro w;refine⟨.func (.func f) (d.map A) (b.map A),by simp[execOp,Instr.makeFunc],?_⟩;have e:d.map A=⟨d.toList.map A⟩:=by apply um;simp
 have g:b.map A=⟨b.toList.map A⟩:=by apply um;simp
 rw[e,g];exact .func f h i
end
def bu.SG:∀ {v:au}{c:List Value},v.length=c.length->(∀(i:Nat) (x:V),v[i]? =some x->∃d,c[i]? =some d/\aP o x d)->bu o v c:=by
 intro v;induction v with
 |nil=>intro c h _;cases c with
  |nil=>exact .nil
  |cons a b=>simp at h
 |cons a v k=>intro c h f;cases c with
  |nil=>simp at h
  |cons b c=>obtain⟨d,e,g⟩:=f 0 a aI;simp at e;subst e;exact .cons g (k (by simpa using h) (λi x j=>by simpa using f (i+1) x (by simpa using j)))
def C5{v:V}(h:aP o v w)(b:bM v=true):bu o (cellsOf v) w.cells.toList:=by
 cases h with
 |agg h=>exact h
 |any w=>cases b
 |cell a=>
  have:∀w:Value,w.oneCell'=true->w.cells.toList=[w]:=by intro w h;cases w<;>first|rfl|cases h
  rw[this _ a];exact .cons (.cell a) .nil
 |_=>exact .cons (by constructor<;>assumption) .nil
theorem BQ(a:List f):∀n,af (rep a n)=n*af a:=by
 intro n;induction n with
 |zero=>simp;rfl
 |succ n b=>show af (dJ a (rep a n))=_;rw[iW,bw,b,qR,i_]
theorem ath(a:List f):∀n i,i<n*af a->(rep a n)[i]? =a[i%a.length]? :=by
 intro n;induction n with
 |zero=>intro i h;omega
 |succ n b=>
  intro i h;show(dJ a (rep a n))[i]? =_;rw[iW];by_cases hi:i<af a
  .rw[s4 hi,jR hi]
  grind [vI,qR,Nat.mod_eq_sub_mod]
variable{F:List Value}
theorem bu.getD{v:au}(h:bu o v F)(hi:a<v.length):∃x b,v[a]? =some x/\F[a]? =some b/\aP o x b:=by
 obtain⟨b,c,d⟩:=h.get a v[a] (by simp[hi])
 grind
variable{c:au}
theorem JO{z:Array Value}(h:bu o c z.toList)(n:Nat):bu o (rep c n) ((Array.range (n*z.size)).map (z[·%z.size]!)).toList:=by
 have hl:c.length=z.size:=by simpa using h.length
 refine .SG (by simp[BQ,hl]) (λi x a=>?_);have hi:i<n*c.length:=by
  have:=(jo.1 a).1
  grind [BQ]
 rw[ath _ _ _ hi]at a;obtain⟨e,b,d⟩:=h.get _ _ a
 grind
def akt(a:Nat):∀(l:List f) (k:Nat) (L:List f),a+k+af l<=L.length->
 ((l.zipIdx k).foldl (λ(b:Array f) (x:f×Nat)=>b.setIfInBounds (a+x.2) x.1) ⟨L⟩)=⟨L.take (a+k)++l++L.drop (a+k+af l)⟩:=by
 intro l;induction l with
 |nil=>intro k L h;simp
 |cons c l g=>
  intro k L h;simp only[dZ]at h;simp only[List.zipIdx_cons,List.foldl_cons];have e:(⟨L⟩:Array f).setIfInBounds (a+k) c=⟨L.set (a+k) c⟩:=aI;rw[e,g (k+1) _ e7];congr 1;have d:a+(k+1)=(a+k)+1:=aa;rw[d,List.take_set,List.drop_set_of_lt aa];rw[lT aa];have i:(List.take (a+k) L++[L[a+k]]).set (a+k) c=List.take (a+k) L++[c]:=by rw[List.set_append_right _ _ e7];simp;have:a+k-min (a+k) L.length=0:=aa;rw[this];rfl
  simp_all;omega
def auI{a:au}{g b:Array Value}(h:bu o c g.toList)(d:bu o a b.toList){off:Nat}(k:off+c.length<=a.length):
 bu o (a.take off++c++a.drop (off+c.length)) (g.zipIdx.foldl (λ(a:Array Value) (x:Value×Nat)=>a.setIfInBounds (off+x.2) x.1) b).toList:=by
 have f:=h.length;have j:=d.length;obtain⟨L⟩:=b;obtain⟨l⟩:=g;have e:=akt off l 0 L (by simp at f j;omega);have i:((⟨l⟩:Array Value).zipIdx.foldl (λ(a:Array Value) (x:Value×Nat)=>a.setIfInBounds (off+x.2) x.1) ⟨L⟩)=((l.zipIdx 0).foldl (λ(a:Array Value) (x:Value×Nat)=>a.setIfInBounds (off+x.2) x.1) ⟨L⟩):=by rw[<-Array.foldl_toList];simp
 rw[i,e];simp only[dG];simp at f;rw[f];exact((d.take off).append h).append (d.drop (off+l.length))
def Ik{place:Nat->Option (Nat×Nat)}:∀(b:List (Nat×Nat)) (a:av) (d:au) (e:List Value) (c r:au) (f:Array Value),
 a.length=b.length->(∀(j:Nat) (p:Nat×Nat),b[j]? =some p->∃i,a[j]? =some i/\place i=some p)->bu o d e->e.length=b.length->bu o c f.toList->q4 b d c=some r->
 ∃m,Instr.fill place f (a.zip e)=some m/\bu o r m.toList:=by
 intro b;induction b with
 |nil=>
  intro a d e c r f l _ u hl k h;cases a with
  |nil=>cases h;exact⟨f,rfl,k⟩
  |cons=>simp at l
 |cons p b E=>
  intro a d e c r f l t u hl k h;cases u with
  |nil=>simp at hl
  |cons C D=>
   rename_i v K d e;cases a with
   |nil=>simp at l
   |cons i a=>
    obtain⟨n,h⟩:=dA.1 (show aX (and (bM v) (bt (c_ (cellsOf v)) p.2)) (aq (dj (cellsOf v) c p.1) λc=>q4 b d c)=some r from h);obtain⟨F,g,h⟩:=aB.1 h;rw[de,beq_eq,iw]at n;obtain⟨w,n⟩:=n;rw[mH]at g;split at g
    .rename_i x;cases g;have s:=C5 C w;have H:=s.length;have G:=k.length;obtain⟨J,hi',y⟩:=t 0 p aI;simp at hi';subst hi';have A:=auI (off:=p.1) s k x;obtain⟨m,I,B⟩:=E a d e _ r _ (by simpa using l) (λj q z=>by simpa using t (j+1) q (by simpa using z)) D (by simpa using hl) A h;refine⟨m,?_,B⟩;simp only[List.zip_cons_cons,Instr.fill,y];simp_all
    .cases g
theorem Bs{a:Array Value}(h:bu o c a.toList)(w:World)(e:TypeId):vQ o (.cells c 0) a.size w (w.alloc (.cells a e)):=by
 refine⟨aI,λb j=>?_,iQ.alloc _ _,c,rfl,?_,λi v d=>?_,λi hi=>⟨?_,?_⟩⟩
 .show(w.heap.push _)[b]? =_
  grind
 .have:=h.length;simp at this;omega
 .obtain⟨k,f,g⟩:=h.get i v d;simp_all
 .simp_all
 simp_all
section
variable {P:Program}{C:aL}{A:Operand->Value}{dst:Option Tmp}{ty:TypeId}{pos:String}{after:Array Edge}{guard:Option (Nat×Bool)}{T:c6}
def auj(hT:dH P T)(h:iZ T e=some a):∃i,P.info? e=some i/\i.size=a:=by obtain⟨i,hi,h⟩:=aB.1 (show aq (T.info e) (λi=>some i.size)=some a from h);cases h;exact⟨i,hT.info e i hi,rfl⟩
def m5(hT:dH P T)(h:iZ T e=some a)(w:World):(sizeOf e).run P w=.ok a w:=by obtain⟨i,hi,rfl⟩:=auj hT h;simp[sizeOf,typeInfo,hi]
variable{S:TypeInfo}
def sG(h:P.info? e=some S)(w:World):(typeInfo e).run P w=.ok S w:=by simp[typeInfo,h]
def avA:∀ {n:Nat}{v:Value}{x:V},ow n v=some x->bM x=true:=by
 intro n v x h;cases n with
 |zero=>cases h
 |succ n=>
  cases v with
  |pointer a=>cases a<;>cases h;rfl
  |slice a l c=>cases a<;>cases l<;>cases c<;>cases h;rfl
  |map r=>cases r<;>cases h;rfl
  |agg b=>obtain⟨y,_,h⟩:=aB.1 (show aq (wX (ow n) b.toList) (λr=>some (V.agg r))=some x from h);cases h;rfl
  |tuple b=>obtain⟨y,_,h⟩:=aB.1 (show aq (wX (ow n) b.toList) (λr=>some (V.aH r))=some x from h);cases h;rfl
  |_=>cases h<;>rfl
def Ah(hT:dH P T)(h:zeroCells T e=some c):∃i z,P.info? e=some i/\i.zero=some z/\∀C,bu C c z.cells.toList:=by obtain⟨i,hi,h⟩:=aB.1 (show aq (T.info e) (λi=>aq i.zero λz=>aq (ow 20 z) λv=>some (cellsOf v))=some c from h);obtain⟨z,b,h⟩:=aB.1 h;obtain⟨v,a,h⟩:=aB.1 h;cases h;exact⟨i,z,hT.info e i hi,b,λC=>C5 (Fg C _ _ _ a) (avA a)⟩
def vm(h:P.info? e=some S)(b:S.zero=some w)(a:World):(zeroValue e).run P a=.ok w a:=by simp[zeroValue,typeInfo,h,b]
def BU(hT:dH P T)(h:T.isAgg e=some n)(w:World):(isAgg e).run P w=.ok n w:=by obtain⟨d,a,h⟩:=aB.1 (show aq (T.bI e) _=some n from h);have b:=run_underlying (hT.bI a) w;cases d<;>simp only[Option.some.injEq]at h<;>subst h<;>simp[isAgg,b]
theorem VI(hT:dH P T)(h:zeroCells T e=some c):gk P C A ⟨dst,.alloc e,ty,pos,after,guard⟩ (.new c .ptr):=by obtain⟨i,z,hi,f,d⟩:=Ah hT h;intro w;refine⟨_,_,_,?_,Bs (d C) w e,λD b a=>.ptr a⟩;simp[execOp,Instr.alloc,vm hi f,newVar,newRow]
theorem Wz{v:V}(h:aP C v (A i))(c:bM v=true):gk P C A ⟨dst,.box e i,ty,pos,after,guard⟩ (.new (cellsOf v) .ptr):=by intro w;refine⟨_,_,_,?_,Bs (C5 h c) w e,λD b a=>.ptr a⟩;simp[execOp,Instr.box,newVar,newRow]
theorem zK{f:Nat->Option (Nat×Nat)}:∀ {l:List (Nat×Operand)}{r:List (Nat×Nat)×List (Fr->V)},placesOf f l=some r->
 r.1.length=af l/\(∀(j:Nat) (p:Nat×Nat),r.1[j]? =some p->∃i,(l.map (·.1))[j]? =some i/\f i=some p)/\jA (l.map (·.2))=some r.2:=by
 intro l;induction l with
 |nil=>intro r h;cases h;exact⟨rfl,λj p h=>by simp at h,rfl⟩
 |cons x l e=>
  intro r h;obtain⟨q,m,h⟩:=aB.1 (show aq (f x.1) (λq=>aq (gQ x.2) λy=>aq (placesOf f l) λr=>some (q::r.1,y::r.2))=some r from h);obtain⟨y,d,h⟩:=aB.1 h;obtain⟨s,c,h⟩:=aB.1 h;cases h;obtain⟨a,g,b⟩:=e c;refine⟨by simp[a],λj p k=>?_,?_⟩
  .grind
  .show aq (gQ x.2) (λf=>aq (jA (l.map (·.2))) λr=>some (f::r))=_;rw[d,b];rfl
theorem parts_eq(A:Operand->Value)(parts:Array (Nat×Operand)):(parts.map λ(x:Nat×Operand)=>(x.1,A x.2)).toList=(parts.toList.map (·.1)).zip ((parts.toList.map (·.2)).map A):=by
 obtain⟨l⟩:=parts
 grind
def ew{x:Option cl}{c:cl}(h:jg x=c)(a:c≠ .bad):x=some c:=by
 cases x with
 |none=>exact absurd h.symm a
 |some y=>exact congrArg some h
def akp(hT:dH P T)(w:World):∀ {l:List Field}{a:List (Nat×Nat)},DM T l=some a->(l.mapM λf=>(do let s<-sizeOf f.type;pure (f.offset,s):Sem (Nat×Nat))).run P w=.ok a w:=by
 intro l;induction l with
 |nil=>intro a h;cases h;rfl
 |cons f l d=>intro a h;obtain⟨s,c,h⟩:=aB.1 (show aq (iZ T f.type) (λs=>aq (DM T l) λr=>some ((f.offset,s)::r))=some a from h);obtain⟨r,b,h⟩:=aB.1 h;cases h;have:=d b;rw[List.mapM_cons];simp only[eE,m5 hT c,eO,gl,this]
variable{K:au->Option bh}{H:bh}
theorem WK{parts:Array (Nat×Operand)}(hT:dH P T)(J:Gh T e parts.toList=.pu t K)
 (x:kJ C j A (parts.toList.map (·.2))) (a:K (vals t j)=some H):gk P C A ⟨dst,.build e parts,ty,pos,after,guard⟩ H:=by
 have h:=ew J aI;obtain⟨F,R,h⟩:=aB.1 h;obtain⟨i,z,hi,D,y⟩:=Ah hT R;obtain⟨d,L,h⟩:=aB.1 h;have B:=run_underlying (hT.bI L);intro w;cases d<;>simp only[reduceCtorEq]at h
 case struct G=>
  obtain⟨E,O,h⟩:=aB.1 h;obtain⟨q,r,h⟩:=aB.1 h;cases h;obtain⟨b,I,m⟩:=zK r;obtain⟨k,o,a⟩:=aB.1 a;cases a;have v:=qq m x;have N:(G.mapM λf=>(do let s<-sizeOf f.type;pure (f.offset,s):Sem (Nat×Nat))).run P w=.ok ⟨E⟩ w:=by rw[Array.mapM_eq_mapM_toList];simp only[Sem.run_map,akp hT w O,eO]
  obtain⟨g,c,u⟩:=Ik (place:=((⟨E⟩:Array (Nat×Nat))[·]?)) q.1 (parts.toList.map (·.1)) _ _ F k z.cells (by simp[b]) (λS p M=>by grind [iu]) v (by simp[b]) (y C) o
  refine⟨.agg g,?_,?_⟩
  .simp only[execOp,Instr.build];rw[<-parts_eq]at c;simp only[eE,vm hi D,eO,B,N,c,gl]
  .obtain⟨l⟩:=g;exact .agg u
 case array n U=>
  obtain⟨s,Q,h⟩:=aB.1 h;obtain⟨q,r,h⟩:=aB.1 h;cases h;obtain⟨b,I,m⟩:=zK r;obtain⟨k,o,a⟩:=aB.1 a;cases a;have v:=qq m x;obtain⟨g,c,u⟩:=Ik (place:=λi=>some (i*s,s)) q.1 (parts.toList.map (·.1)) _ _ F k z.cells (by simp[b]) (λS p M=>by grind) v (by simp[b]) (y C) o
  refine⟨.agg g,?_,?_⟩
  .simp only[execOp,Instr.build];rw[<-parts_eq]at c;simp only[eE,vm hi D,eO,B,m5 hT Q,c,gl]
  .obtain⟨l⟩:=g;exact .agg u
end
def xy{v:V}(h:gZ v=some d):∃k,v=.int k (d:Int):=by
 cases v with
 |int k m=>cases m with
  |ofNat a=>cases h;exact⟨k,rfl⟩
  |negSucc a=>cases h
 |_=>cases h
section
variable {P:Program}{C:aL}{A:Operand->Value}{dst:Option Tmp}{ty:TypeId}{pos:String}{after:Array Edge}{guard:Option (Nat×Bool)}{T:c6}
variable{K:au->Option bh}{H:bh}
theorem WJ{parts:Array (Nat×Operand)}(hT:dH P T)(F:Gi T e a parts.toList=.pu t K)
 (J:kJ C j A (parts.toList.map (·.2))) (k:K (vals t j)=some H):gk P C A ⟨dst,.buildSlice e a parts,ty,pos,after,guard⟩ H:=by
 have h:=ew F aI;obtain⟨d,I,h⟩:=aB.1 h;have v:=run_underlying (hT.bI I);intro w;cases d<;>simp only[reduceCtorEq]at h
 case slice l=>
  obtain⟨s,r,h⟩:=aB.1 h;obtain⟨n,h⟩:=dA.1 h;obtain⟨g,R,h⟩:=aB.1 h;obtain⟨i,z,hi,S,N⟩:=Ah hT R;obtain⟨q,L,h⟩:=aB.1 h;obtain⟨u,h⟩:=dA.1 h;cases h;obtain⟨m,U,B⟩:=zK L;obtain⟨y,G,k⟩:=aB.1 k;cases k;rw[fV]at n;rw[beq_eq,iw]at u;have W:z.cells.size=s:=by have:=(N C).length;simp at this;omega
  have Q:=qq B J;have O:bu C (rep g a) ((Array.range (a*s)).map ((if a*s=0 then #[]else z.cells)[·%(if a*s=0 then #[]else z.cells).size]!)).toList:=by
   by_cases c:a*s=0
   .simp only[c,if_true];have:rep g a=[]:=by have:=BQ g a;rw[u,c]at this;exact pn this
    rw[this];simpa using bu.nil
   .simp only[c,if_false]
    grind [JO]
  obtain⟨x,f,M⟩:=Ik (place:=λi=>some (i*s,s)) q.1 (parts.toList.map (·.1)) _ _ (rep g a) y _ (by simp[m]) (λX p V=>by grind) Q (by simp[m]) O G
  rw[<-parts_eq]at f;refine⟨.slice (some ⟨w.heap.size,0,none⟩) a a,w.alloc (.cells x l),x.size,?_,Bs M w l,λD b E=>.slice E (aJ _) rfl⟩;simp only[execOp,Instr.buildSlice];have o:¬(a*s>2^24):=by have:a*s<=16777216:=n;omega
  by_cases c:a*s=0
  .simp only[ay c]at f;simp only[eE,v,eO,m5 hT r,ao o,ay c,gl,f,newRow,run_newObj];simp
  .simp only[ao c]at f;simp only[eE,v,eO,m5 hT r,ao o,ao c,vm hi S,gl,f,newRow,run_newObj];simp
variable{S:TypeInfo}{l:V}
theorem aqF{h:TypeId}{y:Operand}(hT:dH P T)(s:T.bI e=some (.slice h))(hi:T.info h=some S)(L:zeroCells T h=some c)(B:c.length=S.size)
 {a:V} (m:aP C a (A i)) (j:aP C l (A y)) (f:l_ S.bytes c [a,l]=some H):gk P C A ⟨dst,.makeSlice e i y,ty,pos,after,guard⟩ H:=by
 intro w;have F:=run_underlying (hT.bI s);obtain⟨d,z,hi',M,v⟩:=Ah hT L;have u:d=S:=by have:=hT.info h S hi;rw[hi']at this;exact Option.some.inj this
 subst u;obtain⟨n,g,f⟩:=aB.1 (show aq (gZ a) _=some H from f);obtain⟨b,q,f⟩:=aB.1 f;obtain⟨k,f⟩:=dA.1 f;obtain⟨p,f⟩:=dA.1 f;cases f;rw[de,fV,fV]at k;rw[fV]at p;obtain⟨Q,rfl⟩:=xy g;obtain⟨R,rfl⟩:=xy q;generalize J:A i=U at m
 generalize K:A y=W at j
 cases m;cases j;have o:n<=b/\b*d.bytes<=1099511627776:=k;have G:IntKind.i64.wrap (n:Int)=n:=by simp[uv,rQ,rR];omega
 have I:IntKind.i64.wrap (b:Int)=b:=by simp[uv,rQ,rR];omega
 have O:z.cells.size=d.size:=by have:=(v C).length;simp at this;omega
 have N:¬((d.bytes:Int)*(b:Int)>2^48):=by have:((b*d.bytes:Nat):Int)<=1099511627776:=aa;rw[fF,Int.mul_comm]at this;omega
 have r:((decide ((b:Int)<0)||decide ((d.bytes:Int)*(b:Int)>2^48))||decide ((n:Int)<0)||decide ((n:Int)>b))=false:=by simp;omega
 have x:bu C (rep c b) ((Array.range (b*d.size)).map ((if b*d.size=0 then #[]else z.cells)[·%(if b*d.size=0 then #[]else z.cells).size]!)).toList:=by
  by_cases g:b*d.size=0
  .simp only[g,if_true];have:rep c b=[]:=by have:=BQ c b;rw[B,g]at this;exact pn this
   rw[this];simpa using bu.nil
  .simp only[g,if_false]
   grind [JO]
 refine⟨.slice (some ⟨w.heap.size,0,none⟩) n b,_,_,?_,Bs x w h,λD l j=>.slice j o.1 rfl⟩;have t:=sG (P:=P) hi';have E:(sizeOf h).run P=λw=>.ok d.size w:=by funext w;simp[sizeOf,sG hi']
 simp only[execOp,Instr.makeSlice,J,K,asInt,asIntOf];simp only[eE,F,eO,gl,t,G,I,r,jk,if_false,run_askRoom,E,cg];by_cases g:b*d.size=0
 .simp[g,newRow]
 .simp[g,newRow,vm hi' M]
end
theorem nV(c b n:Nat):(⟨c,b,none⟩:Addr).add n=⟨c,b+n,none⟩:=by unfold Addr.add;split<;>simp_all
section
variable {P:Program}{C:aL}{A:Operand->Value}{dst:Option Tmp}{ty:TypeId}{pos:String}{after:Array Edge}{guard:Option (Nat×Bool)}{T:c6}
variable{H:bh}
def aj'{f:Array Field}{fd:Field}(hT:dH P T)(n:T.bI e=some (.struct f))(p:f.toList[a]? =some fd)(q:iZ T fd.type=some d)(m:d≠0)
 {v:V} (g:aP C v (A i)) (j:zf fd.offset [v]=some H):gk P C A ⟨dst,.fieldAddr e i a,ty,pos,after,guard⟩ H:=by
 intro w;generalize r:A i=B at g
 cases g<;>first|(cases j;done)|skip
 .rename_i b o l t;cases j;refine⟨.pointer (some ⟨l.c,l.base+(o+fd.offset),none⟩),?_,.ptr t⟩;have h:f[a]? =some fd:=by simpa using p
  simp only[execOp,Instr.fieldAt,r];simp only[eE,run_underlying (hT.bI n),eO,h,yA,gl,fieldPlace,m5 hT q,ao m,nV];simp[ng]
 .rename_i k s o x z y hi u g;cases j;refine⟨.pointer (some ⟨s,o+(k+fd.offset),none⟩),?_,.dY hi u g⟩;have h:f[a]? =some fd:=by simpa using p
  simp only[execOp,Instr.fieldAt,r];simp only[eE,run_underlying (hT.bI n),eO,h,yA,gl,fieldPlace,m5 hT q,ao m,nV];simp[ng]
def ar5(hT:dH P T)(m:T.isAgg e=some n)(o:iZ T e=some a)(h:bu C c F)(b:BC n a c d=some H)(w:World):
 ∃v f,H=.val v/\(part e ⟨F⟩ d).run P w=.ok f w/\aP C v f:=by
 have i:=BU hT m;have p:=m5 hT o;cases n with
 |false=>
  obtain⟨v,j,b⟩:=aB.1 (show aq (dw c d) (λv=>some (bh.val v))=some H from b);cases b;rw[iu]at j;obtain⟨f,k,l⟩:=h.get _ _ j;refine⟨v,f,rfl,?_,l⟩;have:(⟨F⟩:Array Value)[d]? =some f:=by simpa using k
  simp[part,i,this]
 |true=>
  obtain⟨q,g,b⟩:=aB.1 (show aq (cW (eH c d) a) (λH=>some (bh.val (.agg H)))=some H from b);cases b;rw[fB,l8]at g;split at g
  .cases g;refine⟨_,.agg ⟨(F.drop d).take a⟩,rfl,?_,.agg ((h.drop d).take a)⟩;simp only[part,eE,i,eO,if_true,p,gl];congr 2;apply um;simp
  .cases g
def aka{b:Array Field}{fd:Field}(hT:dH P T)(k:T.bI e=some (.struct b))(l:b.toList[a]? =some fd)(p:iZ T fd.type=some d)(o:T.isAgg fd.type=some n)
 {v:V} (f:aP C v (A i)) (c:A2 n d fd.offset [v]=some H):gk P C A ⟨dst,.field e i a,ty,pos,after,guard⟩ H:=by
 intro w;generalize q:A i=u at f
 cases f<;>first|(cases c;done)|skip
 rename_i s t h;obtain⟨v,r,rfl,g,j⟩:=ar5 hT o p h c w;refine⟨r,?_,j⟩;have m:b[a]? =some fd:=by simpa using l
 simp only[execOp,Instr.field,q];simp[run_underlying (hT.bI k),m,asAgg,g]
variable{l:V}
theorem ama{p:TypeId}{y:Operand}(hT:dH P T)(r:T.bI e=some (.slice p))(s:iZ T p=some d){a:V}(q:aP C a (A i))(hi:aP C l (A y))(f:dO none d [a,l]=some H):
 gk P C A ⟨dst,.indexAddr e i y,ty,pos,after,guard⟩ H:=by
 intro w;obtain⟨m,G,n⟩:=aB.1 (show aq (gZ l) _=some H from f);clear f;obtain⟨k,rfl⟩:=xy G;generalize t:A i=N at q
 generalize u:A y=O at hi
 cases hi;cases q<;>first|(cases n;done)|skip
 .rename_i b o g J B v E D L;obtain⟨j,f⟩:=dA.1 (show aX (b6 (Nat.succ m) g) _=some H from n);cases f;rw[fV]at j;refine⟨.pointer (some ⟨v.c,v.base+(o+m*d),none⟩),?_,.ptr E⟩;have h:0<=(m:Int)/\(m:Int)<(g:Int):=aa;simp only[execOp,Instr.indexAt,t,u,asIntOf];simp only[eE,gl,eO,run_underlying (hT.bI r),ay h,m5 hT s,cg,nV];simp[ng]
 .rename_i g x o B K M z hi F I D;obtain⟨j,f⟩:=dA.1 (show aX (b6 (Nat.succ m) g) _=some H from n);cases f;rw[fV]at j;refine⟨.pointer (some ⟨x,o+(m*d),none⟩),?_,.dY hi F I⟩;have h:0<=(m:Int)/\(m:Int)<(g:Int):=aa;simp only[execOp,Instr.indexAt,t,u,asIntOf];simp only[eE,gl,eO,run_underlying (hT.bI r),ay h,m5 hT s,cg,nV]
variable{m:Nat}
theorem al'{p:TypeId}{y:Operand}(hT:dH P T)(r:T.bI e=some (.array m p))(s:iZ T p=some d){a:V}(q:aP C a (A i))(hi:aP C l (A y))(g:dO (some m) d [a,l]=some H):
 gk P C A ⟨dst,.indexAddr e i y,ty,pos,after,guard⟩ H:=by
 intro w;obtain⟨f,E,n⟩:=aB.1 (show aq (gZ l) _=some H from g);clear g;obtain⟨k,rfl⟩:=xy E;generalize t:A i=K at q
 generalize u:A y=L at hi
 cases hi;cases q<;>first|(cases n;done)|skip
 .rename_i b o v B;obtain⟨j,g⟩:=dA.1 (show aX (b6 (Nat.succ f) m) _=some H from n);cases g;rw[fV]at j;refine⟨.pointer (some ⟨v.c,v.base+(o+f*d),none⟩),?_,.ptr B⟩;have h:0<=(f:Int)/\(f:Int)<(m:Int):=aa;simp only[execOp,Instr.indexAt,t,u,asIntOf];simp only[eE,gl,eO,run_underlying (hT.bI r),yA,ay h,m5 hT s,cg,nV];simp[ng]
 .rename_i G x o I J z hi D F;obtain⟨j,g⟩:=dA.1 (show aX (b6 (Nat.succ f) m) _=some H from n);cases g;rw[fV]at j;refine⟨.pointer (some ⟨x,o+(G+f*d),none⟩),?_,.dY hi D F⟩;have h:0<=(f:Int)/\(f:Int)<(m:Int):=aa;simp only[execOp,Instr.indexAt,t,u,asIntOf];simp only[eE,gl,eO,run_underlying (hT.bI r),yA,ay h,m5 hT s,cg,nV];simp[ng]
def amd{y:Operand}(r:P.underlying e=some .string){a:V}(f:aP C a (A i))(hi:aP C l (A y))(c:oa [a,l]=some H):
 gk P C A ⟨dst,.index e i y,ty,pos,after,guard⟩ H:=by
 intro w;generalize o:A i=t at f
 generalize p:A y=u at hi
 cases f<;>first|(cases c;done)|skip
 rename_i s;obtain⟨m,j,c⟩:=aB.1 (show aq (gZ l) _=some H from c);obtain⟨k,rfl⟩:=xy j;cases hi;obtain⟨b,d,c⟩:=aB.1 c;cases c;rw[iu]at d;refine⟨_,?_,.int _ _⟩;have q:(⟨⟨s⟩⟩:ByteArray)[m]? =some b:=by have h:=(jo.1 d).1;have g:=(jo.1 d).2;have n:m<(⟨⟨s⟩⟩:ByteArray).size:=h;rw[getElem?_pos (⟨⟨s⟩⟩:ByteArray) m n];exact congrArg some g
 simp only[execOp,Instr.index,o,p,asIntOf];simp_all [eE,gl,eO,run_underlying,w9,if_true,cg]
end
def mS(C:aL):Option V->Option Value->Prop
 |none,none=>True
 |some v,some a=>aP C v a
 |_,_=>False
section
variable {P:Program}{C:aL}{A:Operand->Value}{dst:Option Tmp}{ty:TypeId}{pos:String}{after:Array Edge}{guard:Option (Nat×Bool)}{T:c6}
def vk{v:V}(h:aP C v w)(e:gZ v=some a)(f:a<=d)(c:BoundsCode)(b:World):(Instr.sliceBound w d c).run P b=.ok a b:=by obtain⟨k,rfl⟩:=xy e;cases h;have g:0<=(a:Int)/\(a:Int)<=(d:Int):=aa;simp[Instr.sliceBound,asIntOf,f]
def L9(x:Option V)(d n:Nat):Prop:=match x with
 |none=>n=d
 |some v=>gZ v=some n
variable{m:Nat}{D:Nat}
def uN{lo hi:Option V}(b:kK lo hi a d=some (m,D)):
 L9 hi a D/\L9 lo 0 m/\D<=d/\m<=D:=by
 obtain⟨g,e,b⟩:=aB.1 b;obtain⟨h,f,b⟩:=aB.1 b;obtain⟨c,b⟩:=dA.1 b;cases b;rw[de,fV,fV]at c;refine⟨?_,?_,c.1,c.2⟩
 .cases hi with
  |none=>cases e;rfl
  |some v=>exact e
 .cases lo with
  |none=>cases f;rfl
  |some v=>exact f
variable{O:Nat}
def vl{oU:Bool}{lo hi:Option V}{lo' hi':Option Value}(rl:mS C lo lo')(f:mS C hi hi')(e:kK lo hi a d=some (D,O))(j:d<=m)(w:World):
 (uu oU a m lo' hi' none).run P w=.ok (D,O,m) w:=by
 obtain⟨c,b,h,i⟩:=uN e;cases hi with
 |none=>
  cases hi' with
  |some v=>exact f.elim
  |none=>
   have k:O=a:=c;clear c e;subst k;cases lo with
   |none=>cases lo' with
    |some v=>exact rl.elim
    |none=>
     have g:D=0:=b;clear b
     try clear e
     subst g;simp[uu]
   |some v=>cases lo' with
    |none=>exact rl.elim
    |some l=>simp[uu,vk (P:=P) rl b i]
 |some u=>
  cases hi' with
  |none=>exact f.elim
  |some n=>
   cases lo with
   |none=>cases lo' with
    |some v=>exact rl.elim
    |none=>
     have g:D=0:=b;clear b
     try clear e
     subst g;simp[uu,vk (P:=P) f c (c5 h j)]
   |some v=>cases lo' with
    |none=>exact rl.elim
    |some l=>simp[uu,vk (P:=P) rl b i,vk (P:=P) f c (c5 h j)]
variable{l:V}
def BT{oU:Bool}{lo hi:Option V}{lo' hi':Option Value}(rl:mS C lo lo')(c:mS C hi hi')(p:hi.isSome=true)(j:aP C l w)(i:gZ l=some a)
 (g:kK lo hi d a=some (D,O)) (h:a<=m) (k:World):(uu oU d m lo' hi' (some w)).run P k=.ok (D,O,a) k:=by
 obtain⟨e,b,f,o⟩:=uN g;cases hi with
 |none=>simp at p
 |some u=>
  cases hi' with
  |none=>exact c.elim
  |some q=>
   cases lo with
   |none=>cases lo' with
    |some v=>exact rl.elim
    |none=>
     have n:D=0:=b;clear b
     try clear g
     subst n;simp[uu,vk (P:=P) j i h,vk (P:=P) c e f]
   |some v=>cases lo' with
    |none=>exact rl.elim
    |some r=>simp[uu,vk (P:=P) j i h,vk (P:=P) rl b o,vk (P:=P) c e f]
variable{H:bh}
def auz(g:P.underlying e=some .string){s:aW}{lo hi:Option V}{lo' hi':Option Value}(rl:mS C lo lo')(j:mS C hi hi')(a:yj s lo hi=some H)(w:World):
 ∃v d,H=.val v/\(Instr.sliceAt e (.string ⟨⟨s⟩⟩) lo' hi' none).run P w=.ok d w/\aP C v d:=by
 obtain⟨⟨l,h⟩,c,a⟩:=aB.1 a;obtain⟨u,b,a⟩:=aB.1 a;cases a;rw[iw]at c;have f:=vl (P:=P) (oU:=false) rl j c (aJ _);rw[fB,l8]at b;split at b
 .cases b;refine⟨_,.string ((⟨⟨s⟩⟩:ByteArray).extract l h),rfl,?_,?_⟩
  .have i:(⟨⟨s⟩⟩:ByteArray).size=af s:=rfl;simp only[Instr.sliceAt,Instr.slice,eE,run_underlying g,eO,i];simp[f]
  .have:(⟨⟨s⟩⟩:ByteArray).extract l h=⟨⟨(s.drop l).take (h-l)⟩⟩:=by apply ByteArray.ext;simp[ByteArray.data_extract]
   rw[this];exact .str _
 .cases b
def sJ{c:TypeId}(hT:dH P T)(i:T.bI e=some (.slice c))(j:iZ T c=some d){a:Option Addr}{lo' hi' f:Option Value}{h b:Nat}
 (g:(uu true m D lo' hi' f).run P r=.ok (O,h,b) r):
 (Instr.sliceAt e (.slice a m D) lo' hi' f).run P r=.ok (.slice (if b=O then a else a.map (·.add (O*d))) (h-O) (b-O)) r:=by
 simp only[Instr.sliceAt,Instr.slice,eE,run_underlying (hT.bI i),eO,g,m5 hT j,gl]
theorem E1{lo hi:Option V}{l:Loc}(f:C a=some l)(b:qA a d m D O lo hi=some H):
 ∃v i h,H=.val v/\kK lo hi m D=some (i,h)/\aP C v (.slice (if D=i then some ⟨l.c,l.base+d,none⟩else(some (⟨l.c,l.base+d,none⟩:Addr)).map (·.add (i*O))) (h-i) (D-i)):=by
 obtain⟨⟨i,h⟩,g,b⟩:=aB.1 b;cases b;obtain⟨_,_,j,k⟩:=uN g;refine⟨_,i,h,rfl,g,?_⟩;by_cases e:D=i
 .subst e;have:bt D D=true:=(beq_eq _ _).2 rfl;simp only[this,if_true];exact .slice f b4 rfl
 .have:bt D i=false:=mo.2 (λh=>e ((beq_eq _ _).1 h));simp only[this,ao e,Option.map_some,nV];have:l.base+d+i*O=l.base+(d+i*O):=aa;rw[this];exact .slice f b4 rfl
def auu{n:Nat}{lo hi:Option V}{l:Loc}(g:C a=some l)(_:m<=D)(o:O<=D)(b:B4 a d m O lo hi=some H):
 ∃v i h,H=.val v/\kK lo hi m O=some (i,h)/\aP C v (.slice (if D=i then some ⟨l.c,l.base+d,none⟩else(some (⟨l.c,l.base+d,none⟩:Addr)).map (·.add (i*n))) (h-i) (D-i)):=by
 obtain⟨⟨i,h⟩,f,b⟩:=aB.1 b;obtain⟨e,b⟩:=dA.1 b;cases b;obtain⟨_,_,j,k⟩:=uN f;have e:i=0:=(beq_eq _ _).1 e;subst e;refine⟨_,0,h,rfl,f,?_⟩;have key:(if D=0 then some (⟨l.c,l.base+d,none⟩:Addr)else(some (⟨l.c,l.base+d,none⟩:Addr)).map (·.add (0*n)))=some ⟨l.c,l.base+d,none⟩:=by
  split
  .rfl
  .simp only[Option.map_some,nV,j4,dG]
 rw[key];exact .slice g aa (by show O<=D-0;omega)
variable{Y:Cap}
theorem TT(k:Y=.oY\/Y=.grown O){lo hi:Option V}{l:Loc}(j:C a=some l)(o:m<=D)(g:MH Y D d l.lK)(b:yl a d m Y O lo hi=some H):
 ∃v i h,H=.val v/\kK lo hi m m=some (i,h)/\aP C v (.slice (if D=i then some ⟨l.c,l.base+d,none⟩else(some (⟨l.c,l.base+d,none⟩:Addr)).map (·.add (i*O))) (h-i) (D-i)):=by
 obtain⟨⟨i,h⟩,f,b⟩:=aB.1 b;obtain⟨_,_,q,r⟩:=uN f;have n:(i=0\/i<m)\/¬(i=0\/i<m):=Classical.em _;rcases n with hc|hc
 .have e:or (fN i) (b6 (Nat.succ i) m)=true:=by simp only[fN,vE,beq_eq,fV];exact hc
  simp only[e]at b;cases b;refine⟨_,i,h,rfl,f,?_⟩;have key:(if D=i then some (⟨l.c,l.base+d,none⟩:Addr)else(some (⟨l.c,l.base+d,none⟩:Addr)).map (·.add (i*O)))=some ⟨l.c,l.base+(d+i*O),none⟩:=by
   split
   .grind
   .grind [nV]
  rw[key];refine .slice j b4 ?_;rcases k with rfl|rfl
  .trivial
  .have p:d+D*O<=l.lK:=g;show d+i*O+(D-i)*O<=l.lK;have:(D-i)*O+i*O=D*O:=by rw[<-fT];congr 1;omega
   omega
 .have e:or (fN i) (b6 (Nat.succ i) m)=false:=by apply mo.2;simp only[fN,ne_eq,vE,beq_eq,fV];exact hc
  simp only[e]at b;cases b;refine⟨_,i,h,rfl,f,?_⟩;have:h-i=0:=aa;rw[this];split
  .exact .emp _ _
  .simp only[Option.map_some];exact .emp _ _
end
section
variable {P:Program}{C:aL}{A:Operand->Value}{dst:Option Tmp}{ty:TypeId}{pos:String}{after:Array Edge}{guard:Option (Nat×Bool)}{T:c6}
variable{H:bh}
theorem Ka{lo hi mx:Option Operand}(h:jA (i::dJ (lp lo) (dJ (lp hi) (lp mx)))=some t)
 (u:kJ C j A (i::(lo.toList++hi.toList++mx.toList))) {g:V->Option V->Option V->Option V->Option bh} (k:slice3 g lo.isSome hi.isSome mx.isSome (vals t j)=some H):
 ∃a l h m,aP C a (A i)/\mS C l (lo.map A)/\mS C h (hi.map A)/\mS C m (mx.map A)/\(m.isSome=true->h.isSome=true)/\g a l h m=some H:=by
 have n:bu C (vals t j) ((i::dJ (lp lo) (dJ (lp hi) (lp mx))).map A):=qq h (λy v f s=>u y (by cases lo<;>cases hi<;>cases mx<;>exact v) f s)
 generalize vals t j=l at n k
 cases lo<;>cases hi<;>cases mx
 .cases n with|cons c b=>cases b;exact⟨_,none,none,none,c,trivial,trivial,trivial,aI,k⟩
 .cases n with|cons c b=>cases b with|cons e d=>cases d;cases k
 .cases n with|cons c b=>cases b with|cons e d=>cases d;exact⟨_,none,some _,none,c,trivial,e,trivial,aI,k⟩
 .cases n with|cons c b=>cases b with|cons e d=>cases d with|cons p o=>cases o;exact⟨_,none,some _,some _,c,trivial,e,p,aI,k⟩
 .cases n with|cons c b=>cases b with|cons e d=>cases d;exact⟨_,some _,none,none,c,e,trivial,trivial,aI,k⟩
 .cases n with|cons c b=>cases b with|cons e d=>cases d with|cons p o=>cases o;cases k
 .cases n with|cons c b=>cases b with|cons e d=>cases d with|cons p o=>cases o;exact⟨_,some _,some _,none,c,e,p,trivial,aI,k⟩
 .cases n with|cons c b=>cases b with|cons e d=>cases d with|cons p o=>cases o with|cons q r=>cases r;exact⟨_,some _,some _,some _,c,e,p,q,aI,k⟩
def auy{lo hi mx:Option Operand}(k:P.underlying e=some .string){a:V}{l h m:Option V}(b:aP C a (A i))(rl:mS C l (lo.map A))(q:mS C h (hi.map A))(f:mS C m (mx.map A))
 {n:Nat} (o:∃s,a=.str s) (d:B3 n a l h m=some H):gk P C A ⟨dst,.slice e i lo hi mx,ty,pos,after,guard⟩ H:=by
 intro w;obtain⟨s,rfl⟩:=o;generalize p:A i=t at b
 cases b;cases m with
 |some m=>cases d
 |none=>
  cases c:mx.map A with
  |some m=>rw[c]at f;exact f.elim
  |none=>obtain⟨v,r,rfl,g,j⟩:=auz (P:=P) k rl q d w;exact⟨r,by simp only[execOp,p,c];simp[g],j⟩
variable{m:Nat}{D:Nat}
theorem atx{a:Option Addr}(k:aP C (.row m c) (.slice a m D)){l h:Option V}(g:zX d m c l h none=some H):
 ∃v i hh,H=.val v/\kK l h m m=some (i,hh)/\m<=D/\aP C v (.slice (if D=i then a else a.map (·.add (i*d))) (hh-i) (D-i)):=by
 obtain⟨⟨i,hh⟩,n,g⟩:=aB.1 (show aq (kK l h m m) _=some H from g);obtain⟨_,_,q,r⟩:=uN n;have o:m<=D:=by
  cases k with
  |fQ=>omega
  |row _ _ _ h=>exact h
 have u:a=none->D=0:=by
  intro e;subst e;cases k with
  |fQ _ _ h=>exact h rfl
 cases f:bt i hh with
 |true=>
  have b:Bool.casesOn (motive:=λ_=>Option bh) (bt i hh) (aq (cW (eH c (fz i d)) (fz (ko hh i) d)) λt=>some (.val (.row (ko hh i) t))) (some (bh.val (.row 0 [])))=some H:=g;rw[f]at b;cases b;rw[beq_eq]at f;subst f;refine⟨_,i,i,rfl,n,o,?_⟩;rw[nQ];refine .fQ _ _ ?_;intro e;cases a with
  |none=>grind
  |some a=>grind
 |false=>
  have b:Bool.casesOn (motive:=λ_=>Option bh) (bt i hh) (aq (cW (eH c (fz i d)) (fz (ko hh i) d)) λt=>some (.val (.row (ko hh i) t))) (some (bh.val (.row 0 [])))=some H:=g;rw[f]at b;obtain⟨t,j,b⟩:=aB.1 (show aq (cW (eH c (fz i d)) (fz (ko hh i) d)) (λt=>some (bh.val (.row (ko hh i) t)))=some H from b);cases b;have s:i≠hh:=λe=>by simp_all
  refine⟨_,i,hh,rfl,n,o,?_⟩;rw[ao aa];cases k with
  |fQ=>omega
  |row hi p w _=>
   rw[fB,l8]at j;split at j
   .cases j;show aP C (.row (hh-i) _) (.slice (some (Addr.add ⟨_,_,none⟩ (i*d))) (hh-i) (D-i));rw[nV];refine .row hi ((p.drop _).take _) ?_ aa
    grind
   .cases j
theorem auw{t e:TypeId}{x:Operand}{lo hi mx:Option Operand}{n:Nat}(hT:dH P T)(y:T.bI t=some (.slice e))(B:iZ T e=some n){a:V}{l h m:Option V}(Q:aP C a (A x))(rl:mS C l (lo.map A))(D:mS C h (hi.map A))(u:mS C m (mx.map A))
 (U:m.isSome=true->h.isSome=true) {r:bh} (hs:∀s,a≠ .str s) (d:B3 n a l h m=some r):gk P C A ⟨dst,.slice t x lo hi mx,ty,pos,after,guard⟩ r:=by
 intro w;generalize g:A x=x' at Q
 generalize z:mx.map A=G at u
 cases Q<;>first|exact absurd rfl (hs _)|(cases d;done)|skip
 .rename_i b o W ac j E M K L;cases m with
  |none=>
   cases G with
   |some q=>exact u.elim
   |none=>
    cases ac with
    |known k=>have Y:j=k:=L;subst Y;obtain⟨v,i,hh,rfl,f,p⟩:=E1 M (show qA b o W j n l h=some r from d);have:=sJ (P:=P) hT y B (a:=some ⟨E.c,E.base+o,none⟩) (vl (oU:=true) rl D f (aJ _) w);exact⟨_,by simp only[execOp,g,z];simp_all,p⟩
    |grown sz=>obtain⟨he,d⟩:=dA.1 (show aX (bt sz n) (yl b o W (.grown sz) n l h)=some r from d);rw[beq_eq]at he;subst he;obtain⟨v,i,hh,rfl,f,p⟩:=TT (.inr rfl) M K L d;have:=sJ (P:=P) hT y B (a:=some ⟨E.c,E.base+o,none⟩) (vl (oU:=true) rl D f K w);exact⟨_,by simp only[execOp,g,z];simp_all,p⟩
    |oY=>obtain⟨v,i,hh,rfl,f,p⟩:=TT (.inl rfl) M K L (show yl b o W .oY n l h=some r from d);have:=sJ (P:=P) hT y B (a:=some ⟨E.c,E.base+o,none⟩) (vl (oU:=true) rl D f K w);exact⟨_,by simp only[execOp,g,z];simp_all,p⟩
    |least k=>have R:k<=j:=L;obtain⟨v,i,hh,rfl,f,p⟩:=auu M K R (show B4 b o W k l h=some r from d);have:=sJ (P:=P) hT y B (a:=some ⟨E.c,E.base+o,none⟩) (vl (oU:=true) rl D f R w);exact⟨_,by simp only[execOp,g,z];rw[eE,this];rfl,p⟩
  |some m=>
   cases G with
   |none=>exact u.elim
   |some Z=>
    obtain⟨mm,H,d⟩:=aB.1 (show aq (gZ m) _=some r from d);obtain⟨S,d⟩:=dA.1 d;rw[fV]at S;have aw:mm<=j:=by
     cases ac with
     |known k=>have Y:j=k:=L;subst Y;exact S
     |grown sz=>grind
     |oY=>grind
     |least k=>grind
    obtain⟨v,i,hh,rfl,f,p⟩:=E1 M d;have:=sJ (P:=P) hT y B (a:=some ⟨E.c,E.base+o,none⟩) (BT (oU:=true) rl D (U rfl) u H f aw w);exact⟨_,by simp only[execOp,g,z];simp_all,p⟩
 .obtain⟨⟨i,hh⟩,f,d⟩:=aB.1 (show aq (kK l h 0 0) _=some r from d);obtain⟨_,_,h3,h4⟩:=uN f;have I:hh=0:=aa;have J:i=0:=aa;subst I;subst J;cases m with
  |none=>
   cases G with
   |some q=>exact u.elim
   |none=>cases d;have:=sJ (P:=P) hT y B (a:=none) (vl (oU:=true) rl D f (aJ _) w);exact⟨_,by simp only[execOp,g,z];rw[eE,this];rfl,by simpa using aP.aA⟩
  |some m=>
   cases G with
   |none=>exact u.elim
   |some Z=>obtain⟨mm,H,d⟩:=aB.1 d;obtain⟨N,d⟩:=dA.1 d;cases d;have O:mm=0:=(beq_eq _ _).1 N;subst O;have:=sJ (P:=P) hT y B (a:=none) (BT (oU:=true) rl D (U rfl) u H f (aJ _) w);exact⟨_,by simp only[execOp,g,z];rw[eE,this];rfl,by simpa using aP.aA⟩
 .rename_i F j;obtain⟨⟨i,hh⟩,f,d⟩:=aB.1 (show aq (kK l h 0 0) _=some r from d);obtain⟨_,_,h3,h4⟩:=uN f;have I:hh=0:=aa;have J:i=0:=aa;subst I;subst J;cases m with
  |none=>
   cases G with
   |some q=>exact u.elim
   |none=>
    cases d;have:=sJ (P:=P) hT y B (a:=some F) (vl (oU:=true) rl D f (cj j) w);refine⟨_,by simp only[execOp,g,z];rw[eE,this];rfl,?_⟩;split
    .exact .emp _ _
    .exact .emp _ _
  |some m=>
   cases G with
   |none=>exact u.elim
   |some Z=>
    obtain⟨mm,H,d⟩:=aB.1 d;obtain⟨N,d⟩:=dA.1 d;cases d;have O:mm=0:=(beq_eq _ _).1 N;subst O;have:=sJ (P:=P) hT y B (a:=some F) (BT (oU:=true) rl D (U rfl) u H f (cj j) w);refine⟨_,by simp only[execOp,g,z];rw[eE,this];rfl,?_⟩;split
    .exact .emp _ _
    .exact .emp _ _
 all_goals
  have am:∀ {k:Nat}{X:au}{F:Option Addr}{j:Nat},aP C (.row k X) (.slice F k j)->zX n k X l h m=some r->A x=.slice F k j->(∃v,r=.val v/\∃v',(execOp A ⟨dst,.slice t x lo hi mx,ty,pos,after,guard⟩).run P w=.ok (.value v') w/\aP C v v'):=by
   intro k X F j Q d g;cases m with
   |none=>
    cases G with
    |some q=>exact u.elim
    |none=>obtain⟨v,i,hh,rfl,f,R,p⟩:=atx Q d;have:=sJ (P:=P) hT y B (a:=F) (vl (oU:=true) rl D f R w);exact⟨v,rfl,_,by simp only[execOp,g,z];simp_all,p⟩
   |some m=>
    cases G with
    |none=>exact u.elim
    |some Z=>obtain⟨mm,H,d⟩:=aB.1 (show aq (gZ m) _=some r from d);obtain⟨N,d⟩:=dA.1 d;obtain⟨⟨i,hh⟩,f,d⟩:=aB.1 d;cases d;have O:mm=0:=(beq_eq _ _).1 N;subst O;obtain⟨_,_,h3,h4⟩:=uN f;have I:hh=0:=aa;have J:i=0:=aa;subst I;subst J;have:=sJ (P:=P) hT y B (a:=F) (BT (oU:=true) rl D (U rfl) u H f (cj j) w);exact⟨_,rfl,_,by simp only[execOp,g,z];rw[eE,this];rfl,.ie _⟩
 .obtain⟨v,rfl,h⟩:=am (.fQ _ _ (by assumption)) d g;exact h
 .rename_i hi hc p S;obtain⟨v,rfl,h⟩:=am (.row hi hc p S) d g;exact h
theorem aut{u:TypeId}{lo hi mx:Option Operand}(hT:dH P T)(B:T.bI e=some (.array m u))(G:iZ T u=some d){a:V}{l h j:Option V}(x:aP C a (A i))(rl:mS C l (lo.map A))(z:mS C h (hi.map A))(p:mS C j (mx.map A))
 (E:j.isSome=true->h.isSome=true) (g:ou m d a l h j=some H):gk P C A ⟨dst,.slice e i lo hi mx,ty,pos,after,guard⟩ H:=by
 intro w;generalize I:A i=K at x
 generalize F:mx.map A=t at p
 cases x<;>first|(cases g;done)|skip
 rename_i b o n k
 have key:∀ {f hh mm:Nat},(uu false m m (lo.map A) (hi.map A) t).run P w=.ok (f,hh,mm) w->
  (execOp A ⟨dst,.slice e i lo hi mx,ty,pos,after,guard⟩).run P w=.ok (.value (.slice (if mm=f then some ⟨n.c,n.base+o,none⟩else(some (⟨n.c,n.base+o,none⟩:Addr)).map (·.add (f*d))) (hh-f) (mm-f))) w:=by
  intro f hh mm k;simp only[execOp,I,F,Instr.sliceAt,yA];simp only[eE,run_underlying (hT.bI B),eO,gl,k,m5 hT G]
  grind
 cases j with
 |none=>
  cases t with
  |some q=>exact p.elim
  |none=>obtain⟨v,f,hh,rfl,r,s⟩:=E1 k (show qA b o m m d l h=some H from g);exact⟨_,key (vl rl z r (aJ _) w),s⟩
 |some j=>
  cases t with
  |none=>exact p.elim
  |some J=>obtain⟨mm,D,g⟩:=aB.1 (show aq (gZ j) _=some H from g);obtain⟨y,g⟩:=dA.1 g;rw[fV]at y;obtain⟨v,f,hh,rfl,r,s⟩:=E1 k g;exact⟨_,key (BT rl z (E rfl) p D r y w),s⟩
end
section
variable {P:Program}{C:aL}{A:Operand->Value}{dst:Option Tmp}{ty:TypeId}{pos:String}{after:Array Edge}{guard:Option (Nat×Bool)}{T:c6}
variable{y:Array TypeId}{H:bh}
def ap1(c:y[0]? =some e)(d:P.underlying e=some .string){v:V}(b:aP C v (A i))(a:Bc v=some H):
 gk P C A ⟨dst,.call ⟨.builtin .len,#[i],y⟩,ty,pos,after,guard⟩ H:=by
 intro w;generalize f:A i=g at b
 cases b<;>first|(cases a;done)|skip
 cases a;refine⟨_,?_,.int _ _⟩;simp only[execOp,resolve,invoke,builtin,Builtin.len_];simp[f,c,run_underlying d,goInt,iw];rfl
def apZ{c:TypeId}(d:y[0]? =some e)(f:P.underlying e=some (.slice c)){v:V}(b:aP C v (A i))(a:di v=some H):
 gk P C A ⟨dst,.call ⟨.builtin .len,#[i],y⟩,ty,pos,after,guard⟩ H:=by
 intro w;generalize g:A i=h at b
 cases b<;>first|(cases a;done)|skip
 all_goals
  cases a;refine⟨_,?_,.int _ _⟩;simp only[execOp,resolve,invoke,builtin,Builtin.len_];simp[g,d,run_underlying f,goInt]
def apY{b:TypeId}(c:y[0]? =some e)(d:P.underlying e=some (.array a b)):
 gk P C A ⟨dst,.call ⟨.builtin .len,#[i],y⟩,ty,pos,after,guard⟩ (.val (.int .i64 (.ofNat a))):=by
 intro w;refine⟨.int .i64 a,?_,.int _ _⟩;simp only[execOp,resolve,invoke,builtin,Builtin.len_];simp[c,run_underlying d,goInt]
def W5{k:TypeId}(d:y[0]? =some e)(f:P.underlying e=some (.slice k)){v:V}(g:aP C v (A i))(a:AI v=some H):
 gk P C A ⟨dst,.call ⟨.builtin .cap,#[i],y⟩,ty,pos,after,guard⟩ H:=by
 intro w;generalize h:A i=s at g
 cases g<;>first|(cases a;done)|skip
 .rename_i b o r j c l q p m;cases j<;>first|(cases a;done)|skip
  cases a;have n:c=_:=m;subst n;refine⟨.int .i64 c,?_,.int _ _⟩;simp only[execOp,resolve,invoke,builtin,Builtin.cap_];simp[h,d,run_underlying f,goInt]
 all_goals
  cases a;refine⟨.int .i64 0,?_,.int _ _⟩;simp only[execOp,resolve,invoke,builtin,Builtin.cap_];simp[h,d,run_underlying f,goInt]
def QN{f:V->V->Option V}{n:Value->Value->Sem Value}(t:∀ {a b c:V}{d m:Value},aP C a d->aP C b m->f a b=some c->∀w,∃i,(n d m).run P w=.ok i w/\aP C c i)(w:World):
 ∀ {l:au}{g:List Value},bu C l g->∀ {a v:V}{d:Value},aP C a d->List.rec (motive:=λ_=>V->Option V) (λa=>some a) (λy _ j a=>aq (f a y) j) l a=some v->
  ∃k,(g.foldlM n d).run P w=.ok k w/\aP C v k:=by
 intro l;induction l with
 |nil=>intro g h a v d o e;cases h;simp_all
 |cons y l j=>
  intro g h a v d o e;cases h with
  |cons p q=>obtain⟨c,r,e⟩:=aB.1 e;obtain⟨i,u,s⟩:=t o p r w;obtain⟨k,x,z⟩:=j q s e;simp_all
variable{l:V}
def aqI{a c:V}{b:Value}(g:aP C a w)(i:aP C l b)(h:max2 a l=some c)(f:World):∃d,(Builtin.max2 w b).run P f=.ok d f/\aP C c d:=by
 cases g<;>cases i<;>first|(cases h;done)|skip
 rename_i k x j y;cases h;refine⟨.int k (if y>x then y else x),by simp[Builtin.max2],?_⟩;by_cases hh:x<y
 .have e:l7 x y=true:=by rw[qj];simpa using hh
  rw[e,ay hh];exact .int _ _
 .have e:l7 x y=false:=by rw[qj];simpa using hh
  rw[e,ao hh];exact .int _ _
def aqO{a c:V}{b:Value}(g:aP C a w)(i:aP C l b)(h:min2 a l=some c)(f:World):∃d,(Builtin.min2 w b).run P f=.ok d f/\aP C c d:=by
 cases g<;>cases i<;>first|(cases h;done)|skip
 rename_i k x j y;cases h;refine⟨.int k (if y<x then y else x),by simp[Builtin.min2],?_⟩;by_cases hh:y<x
 .have e:l7 y x=true:=by rw[qj];simpa using hh
  rw[e,ay hh];exact .int _ _
 .have e:l7 y x=false:=by rw[qj];simpa using hh
  rw[e,ao hh];exact .int _ _
def aqK{args:Array Operand}(hl:bu C c (args.toList.map A))(b:q6 max2 c=some H):gk P C A ⟨dst,.call ⟨.builtin .max,args,y⟩,ty,pos,after,guard⟩ H:=by
 intro w;cases c with
 |nil=>cases b
 |cons a c=>
  generalize i:args.toList.map A=m at hl
  cases hl with
  |cons d e=>obtain⟨v,j,b⟩:=aB.1 (show aq _ (λv=>some (bh.val v))=some H from b);cases b;obtain⟨n,k,l⟩:=QN (λf g h w=>aqI (P:=P) f g h w) w e d j;refine⟨n,?_,l⟩;simp only[execOp,resolve,invoke,builtin,Builtin.max_];simp[i,k]
def aqQ{args:Array Operand}(hl:bu C c (args.toList.map A))(b:q6 min2 c=some H):gk P C A ⟨dst,.call ⟨.builtin .min,args,y⟩,ty,pos,after,guard⟩ H:=by
 intro w;cases c with
 |nil=>cases b
 |cons a c=>
  generalize i:args.toList.map A=m at hl
  cases hl with
  |cons d e=>obtain⟨v,j,b⟩:=aB.1 (show aq _ (λv=>some (bh.val v))=some H from b);cases b;obtain⟨n,k,l⟩:=QN (λf g h w=>aqO (P:=P) f g h w) w e d j;refine⟨n,?_,l⟩;simp only[execOp,resolve,invoke,builtin,Builtin.min_];simp[i,k]
def Me(s:aW):bu C (lmap (λb=>V.int .u8 (.ofNat b.toNat)) s) (s.map λb=>Value.int .u8 b.toNat):=by
 induction s with
 |nil=>exact .nil
 |cons b s a=>exact .cons (.int _ _) a
theorem avz{d a:TypeId}(G:P.underlying e=some .string)(y:P.underlying d=some (.slice a))(z:P.underlying a=some (.int .u8)){v:V}(g:aP C v (A i))(k:Cg [v]=some H):
 gk P C A ⟨dst,.convert e d i,ty,pos,after,guard⟩ H:=by
 intro w;generalize I:A i=M at g
 cases g<;>first|(cases k;done)|skip
 rename_i u;cases k;have x:af u<=grownCap w u.length 0 a:=grownCap_ge w _ 0 a;have F:=run_bytes_of_string (P:=P) w e d a ⟨⟨u⟩⟩ G y z;have m:(⟨⟨u⟩⟩:ByteArray).size=af u:=rfl;rw[m]at F;have E:(bytesRow ⟨⟨u⟩⟩ (grownCap w u.length 0 a)).size=grownCap w u.length 0 a:=by simp[bytesRow,m];omega
 have l:=Me (C:=C) u;have r:∀f,f<af u->(bytesRow ⟨⟨u⟩⟩ (grownCap w u.length 0 a))[f]? =(u.map λb=>Value.int .u8 b.toNat)[f]? :=by intro f hi;rw[bytesRow_at _ _ _ (by simpa using hi)];simp[hi]
 generalize bytesRow ⟨⟨u⟩⟩ (grownCap w u.length 0 a)=B at*
 refine⟨.slice (some ⟨w.heap.size,0,none⟩) u.length (grownCap w u.length 0 a),w.drew.alloc (.cells B a (B.size,B.size+1)),grownCap w u.length 0 a,by simp only[execOp,I];simp_all,⟨aI,λc L=>?_,⟨rfl,rfl,rfl,λh=>(iQ.alloc w.drew _).free h,λc n t p h=>(iQ.alloc w.drew _).shape c n t p h⟩,_,rfl,?_,λf v g=>?_,λf hi=>⟨?_,?_⟩⟩,λD b s=>?_⟩
 .show(w.heap.push _)[c]? =_
  grind
 .have K:=l.length
  grind
 .obtain⟨J,j,q⟩:=l.get f v g;refine⟨J,?_,q⟩;have hi:f<af u:=by have:=(jo.1 j).1;simpa using this
  exact(World.cell?_alloc_mark w.drew B a (B.size,B.size+1) f).trans ((r f hi).trans j)
 .exact⟨B[f]'aa,(World.cell?_alloc_mark w.drew B a (B.size,B.size+1) f).trans (by simp[E,hi])⟩
 .refine(World.frozen?_alloc_mark w.drew B a B.size (B.size+1) f).trans ?_
  grind
 .have o:c_ u=af u:=iw u;show aP D (.slice b 0 (c_ u) .oY) _;rw[o];exact .slice s x trivial
end
section
variable {P:Program}{C:aL}{A:Operand->Value}{dst:Option Tmp}{ty:TypeId}{pos:String}{after:Array Edge}{guard:Option (Nat×Bool)}{T:c6}
def arp:Extern.allNextRows.lookup "math/bits.Add64"=none:=by kernel_rfl
def ars:Extern.allNextRows.lookup "math/bits.Sub64"=none:=by kernel_rfl
def Sy:Extern.allNextRows.lookup ""=none:=by kernel_rfl
def akW:Extern.allGenericRows.lookup "math/bits.Add64"=none:=by kernel_rfl
def akX:Extern.allGenericRows.lookup "math/bits.Sub64"=none:=by kernel_rfl
def avV:Extern.allTypedRows.lookup "math/bits.Add64"=none:=by kernel_rfl
def avW:Extern.allTypedRows.lookup "math/bits.Sub64"=none:=by kernel_rfl
def aty:Extern.allRows.lookup "math/bits.Add64"=Extern.MathBitsCarry.rows.lookup "math/bits.Add64":=by kernel_rfl
def atD:Extern.allRows.lookup "math/bits.Sub64"=Extern.MathBitsCarry.rows.lookup "math/bits.Sub64":=by kernel_rfl
variable{y:Array TypeId}
def MA{f:FuncId}{fn:Func}(c:A (.func f)=.func (.func f) #[] #[]) (h:P.funcs[f]? =some fn) (d:fn.body=none) (i:(fn.name== "runtime.NumGoroutine")=false) (a:Extern.findNext fn=none) {e:Array Value->Sem Value} (b:Extern.find fn=some e) {args:Array Operand}{v:Value}
 (g:(e (args.map A)).run P r=.ok v r):(execOp A ⟨dst,.call ⟨.value (.func f),args,y⟩,ty,pos,after,guard⟩).run P r=.ok (.value v) r:=by
 simp only[execOp,resolve,c,Deferred.ofValue,invoke,callFunc];have j:¬fn.name= "runtime.NumGoroutine":=by simpa using i
 simp[h,j,d,a,b,g]
def F3(args:Array Value):Sem Value:=do
 let(x,y,c)<-Extern.MathBitsCarry.three "Add64" args
 pure (Extern.MathBitsCarry.pair ((x+y+c)%Extern.MathBitsCarry.m64) ((x+y+c)/Extern.MathBitsCarry.m64))
def Kk(args:Array Value):Sem Value:=do
 let(x,y,b)<-Extern.MathBitsCarry.three "Sub64" args
 pure (Extern.MathBitsCarry.pair ((x+Extern.MathBitsCarry.m64-y-b)%Extern.MathBitsCarry.m64) (if x<y+b then 1 else 0))
theorem aqn:Extern.MathBitsCarry.rows.lookup "math/bits.Add64"=some F3:=rfl
theorem aqo:Extern.MathBitsCarry.rows.lookup "math/bits.Sub64"=some Kk:=rfl
def Uf(d:String)(a b c:Nat)(f:c<=1)(w:World):(Extern.MathBitsCarry.three d ⟨[.int .u64 (a:Int),.int .u64 (b:Int),.int .u64 (c:Int)]⟩).run P w=.ok (a,b,c) w:=by
 have e:Extern.MathBitsCarry.three d ⟨[.int .u64 (a:Int),.int .u64 (b:Int),.int .u64 (c:Int)]⟩=(do
  let c:=(<-asInt (.int .u64 (c:Int))).toNat
  if c>1 then unsupported (.noEntry ("extern/math/bits."++d++ ": a carry that is neither 0 nor 1"))
  pure ((<-asInt (.int .u64 (a:Int))).toNat,(<-asInt (.int .u64 (b:Int))).toNat,c):Sem (Nat×Nat×Nat)):=rfl
 rw[e];simp[asInt,asIntOf];omega
theorem Su{t:Nat×Nat×Nat}(h:Br c=some t):c=[.int .u64 (t.1:Int),.int .u64 (t.2.1:Int),.int .u64 (t.2.2:Int)]:=by
 have e:∀ {v:V}{n:Nat},Co v=some n->v=.int .u64 (n:Int):=by
  intro v n h;cases v with
  |int k m=>cases k<;>cases m<;>first|(cases h;done)|(cases h;rfl)
  |_=>cases h
 match c,h with
 |[a,b,d],h=>
  obtain⟨x,f,h⟩:=aB.1 (show aq (Co a) _=some t from h);obtain⟨y,g,h⟩:=aB.1 h;obtain⟨z,i,h⟩:=aB.1 h
  grind
 |[],h=>cases h
 |[_],h=>cases h
 |[_,_],h=>cases h
 |_::_::_::_::_,h=>cases h
variable{K:au->Option bh}{H:bh}
def ajY{f:FuncId}{fn:Func}(u:A (.func f)=.func (.func f) #[] #[]) (x:P.funcs[f]? =some fn) (v:fn.body=none) (z:fn.origin= "") (d:H9 fn.name=some K) {args:Array Operand}
 (hl:bu C c (args.toList.map A)) (a:K c=some H):gk P C A ⟨dst,.call ⟨.value (.func f),args,y⟩,ty,pos,after,guard⟩ H:=by
 intro w;have i:args.map A=⟨args.toList.map A⟩:=by apply um;simp
 unfold H9 at d;split at d
 .rename_i b;cases d;obtain⟨t,s,a⟩:=aB.1 (show aq (Br c) _=some H from a);obtain⟨g,a⟩:=dA.1 a;cases a;rw[fV]at g;have:=Su s;subst this;have q:args.toList.map A=[.int .u64 (t.1:Int),.int .u64 (t.2.1:Int),.int .u64 (t.2.2:Int)]:=by
   generalize args.toList.map A=m at hl
   cases hl with|cons j k=>cases k with|cons l n=>cases n with|cons o p=>cases p;cases j;cases l;cases o;rfl
  rw[q]at i;refine⟨.tuple ⟨[.int .u64 (((t.1+t.2.1+t.2.2)%18446744073709551616:Nat):Int),.int .u64 (((t.1+t.2.1+t.2.2)/18446744073709551616:Nat):Int)]⟩,?_,.aH (.cons (.int _ _) (.cons (.int _ _) .nil))⟩;have r:Extern.find fn=some F3:=by simp[Extern.find,b,akW,avV,aty,aqn]
  refine MA u x v (by rw[b];decide) (by simp[Extern.findNext,b,z,arp,Sy]) r ?_;rw[i];simp only[F3,eE,Uf _ _ _ _ g,eO,gl];rfl
 .split at d
  .rename_i b;cases d;obtain⟨t,s,a⟩:=aB.1 (show aq (Br c) _=some H from a);obtain⟨g,a⟩:=dA.1 a;cases a;rw[fV]at g;have:=Su s;subst this;have q:args.toList.map A=[.int .u64 (t.1:Int),.int .u64 (t.2.1:Int),.int .u64 (t.2.2:Int)]:=by
    generalize args.toList.map A=m at hl
    cases hl with|cons j k=>cases k with|cons l n=>cases n with|cons o p=>cases p;cases j;cases l;cases o;rfl
   rw[q]at i;have r:Extern.find fn=some Kk:=by simp[Extern.find,b,akX,avW,atD,aqo]
   refine⟨.tuple ⟨[.int .u64 (((t.1+18446744073709551616-t.2.1-t.2.2)%18446744073709551616:Nat):Int),.int .u64 ((if t.1<t.2.1+t.2.2 then 1 else 0:Nat):Int)]⟩,?_,?_⟩
   .refine MA u x v (by rw[b];decide) (by simp[Extern.findNext,b,z,ars,Sy]) r ?_;rw[i];simp only[Kk,eE,Uf _ _ _ _ g,eO,gl];rfl
   .refine .aH (.cons (.int _ _) (.cons ?_ .nil));by_cases h:t.2.1+t.2.2<=t.1
    .have e:b6 (gY t.2.1 t.2.2) t.1=true:=(fV _ _).2 h;rw[e,ao aa];exact .int _ _
    .have e:b6 (gY t.2.1 t.2.2) t.1=false:=mo.2 (λhh=>h ((fV _ _).1 hh));rw[e,ay aa];exact .int _ _
  .cases d
end
section
variable {P:Program}{C:aL}{A:Operand->Value}{dst:Option Tmp}{ty:TypeId}{pos:String}{after:Array Edge}{guard:Option (Nat×Bool)}{T:c6}
def amm(a:P.underlying e=some E)(b:wq E=true)(w:World):(isAgg e).run P w=.ok false w:=by have c:=run_underlying a w;cases E<;>first|(cases b;done)|simp[isAgg,c]
def BD(a:P.underlying e=some E)(b:wq E=true){cs:Array Value}{i:Nat}{v:Value}(h:cs[i]? =some v)(w:World):(part e cs i).run P w=.ok v w:=by simp[part,amm a b,h]
variable{l:V}
def MI(j:P.underlying e=some E){y:V}{g:Value}(o:aP C l w)(p:aP C y g)(h:xD E l y=some n)(q:Nat)(c:World):(Op.equalIn (q+1) e w g).run P c=.ok n c:=by
 have m:=run_underlying j c;cases E<;>first|(cases h;done)|skip
 case int=>
  cases o<;>first|(cases h;done)|skip
  cases p<;>first|(cases h;done)|skip
  rename_i k a f b;obtain⟨d,h⟩:=dA.1 (show aX (iF k f) (some (n_ a b))=some n from h);cases h;rw[xY]at d;have i:k=f:=by simpa using d
  simp only[Op.equalIn,eE,m,eO,i,if_true,gl,tK];rfl
theorem Gw{ds:List TypeDesc}{d:au}(h:oM (E::ds) c d=some n):
 ∃x e y f a b,c=x::e/\d=y::f/\xD E x y=some a/\oM ds e f=some b/\n=and a b:=by
 cases c with
 |nil=>cases h
 |cons x c=>cases d with
  |nil=>cases h
  |cons y d=>
   obtain⟨a,g,h⟩:=aB.1 (show aq (xD E x y) (λn=>aq (oM ds c d) λs=>some (and n s))=some n from h);obtain⟨b,i,h⟩:=aB.1 h
   grind
theorem AU{l:List f}{a:f}{r:List f}(h:l.drop d=a::r):l[d]? =some a/\l.drop (d+1)=r:=by
 have b:(l.drop d)[0]? =some a:=by rw[h];rfl
 rw[yD]at b;refine⟨b,?_⟩;have:=congrArg (List.drop 1) h
 grind [List.drop_drop]
theorem bu.cons_inv(h:bu C (l::c) F):∃d e,F=d::e/\aP C l d/\bu C c e:=by
 cases h with
 |cons a b=>grind
def amo(hT:dH P T)(g:T.bI e=some E)(m:wq E=true)(n:Nat)(k l:List Value)(w:World):∀(f i:Nat) (c d:au) (r:Bool),bu C c (k.drop i)->bu C d (l.drop i)->oM (BO E f) c d=some r->
 (do let q<-forIn (List.range' i f) ((none:Option Bool),()) (λj _=>do
      let b<-Op.equalIn (n+1) e (<-part e ⟨k⟩ (j*1)) (<-part e ⟨l⟩ (j*1))
      if(!b)=true then pure (ForInStep.done (some false,()))else pure (ForInStep.yield (none,())))
     match q.1 with
     |some a=>pure a
     |none=>pure true:Sem Bool).run P w=.ok r w:=by
 intro f;induction f with
 |zero=>intro i c d r _ _ h;have A:oM [] c d=some r:=h;cases c<;>cases d<;>cases A;simp
 |succ f L=>
  intro i c d r B H h;obtain⟨x,c,y,d,a,b,rfl,rfl,t,u,rfl⟩:=Gw (show oM (E::BO E f) c d=some r from h);obtain⟨Q,S,G,D,F⟩:=B.cons_inv;obtain⟨R,U,K,I,J⟩:=H.cons_inv;obtain⟨v,p⟩:=AU G;obtain⟨z,s⟩:=AU K;have o:=L (i+1) c d b (by rw[p];exact F) (by rw[s];exact J) u;have M:=BD (hT.bI g) m (cs:=⟨k⟩) (i:=i*1) (v:=Q) (by simpa using v) w;have N:=BD (hT.bI g) m (cs:=⟨l⟩) (i:=i*1) (v:=R) (by simpa using z) w;have O:=MI (hT.bI g) D I t n w;rw[List.range'_succ,List.forIn_cons];simp only[eE,M,N,O,eO]at o⊢;cases a
  .simp
  .simpa using o
theorem VD(hT:dH P T){ds:List TypeDesc}(a:yO T e=some ds){f:au}{g:List Value}(r:bu C c F)(s:bu C f g)(h:oM ds c f=some n)(w:World):
 (Op.equal e (.agg ⟨F⟩) (.agg ⟨g⟩)).run P w=.ok n w:=by
 obtain⟨d,m,a⟩:=aB.1 (show aq (T.bI e) _=some ds from a);have q:=hT.bI m;unfold Op.equal;cases d<;>first|(cases a;done)|skip
 case array t b=>
  obtain⟨u,o,a⟩:=aB.1 (show aq (T.bI b) _=some ds from a);obtain⟨k,a⟩:=dA.1 a;obtain⟨i,l,a⟩:=aB.1 a;obtain⟨j,a⟩:=dA.1 a;cases a;rw[beq_eq]at j;have p:(sizeOf b).run P w=.ok 1 w:=by have:=sG (hT.info b i l) w;simp[sizeOf,this,j]
  rw[show Op.maxDepth=9998+1+1 from rfl];have:=amo hT o k 9998 F g w t 0 c f n r s h;unfold Op.equalIn;simp only[eE,run_underlying q,eO,p];simp at this⊢
  grind
theorem atV(i:P.underlying e=some E){y:V}{g:Value}(c:aP C l w)(d:aP C y g)(h:J4 E l y=some n)(f:Nat)(a:World):(Op.equalIn (f+1) e w g).run P a=.ok n a:=by
 by_cases b:E=.string
 .subst b;cases c<;>first|(cases h;done)|skip
  cases d<;>first|(cases h;done)|skip
  cases h
  grind [run_equalIn_string,RU,ByteArray.toList_eq]
 .refine MI i c d (h▸?_) f a;cases E<;>first|rfl|exact absurd rfl b
def Qv(n:Nat)(k l:List Value)(w:World):∀(j:List Field) (ds:List TypeDesc) (i:Nat) (c e:au) (r:Bool),Cz P j ds i=true->bu C c (k.drop i)->bu C e (l.drop i)->EU ds c e=some r->
 (Op.eqFields (n+1) ⟨k⟩ ⟨l⟩ j).run P w=.ok r w
 |[],[],_,_,_,_,_,_,_,h=>by cases h;rfl
 |[],_::_,_,_,_,_,h,_,_,_=>by cases h
 |_::_,[],_,_,_,_,h,_,_,_=>by cases h
 |f::j,d::ds,i,c,e,r,q,E,I,h=>by
  rw[Cz,de,de,de,beq_eq]at q;obtain⟨m,o,g,D⟩:=q;have m:f.name≠ "_":=by simpa using m
  have o:f.offset=i:=by simpa using o
  have g:=avo g;cases c<;>first|(cases h;done)|skip
  cases e<;>first|(cases h;done)|skip
  rename_i x c y e;obtain⟨a,p,h⟩:=aB.1 (show aq (J4 d x y) (λr=>aq (EU ds c e) λs=>some (and r s))=some r from h);obtain⟨b,z,h⟩:=aB.1 h;cases h;have t:wq d=true:=by cases d<;>first|rfl|cases p
  obtain⟨R,T,H,F,G⟩:=E.cons_inv;obtain⟨S,U,L,J,K⟩:=I.cons_inv;obtain⟨A,u⟩:=AU H;obtain⟨B,v⟩:=AU L;subst o;have M:=Qv n k l w j ds (f.offset+1) c e b D (by rw[u];exact G) (by rw[v];exact K) z;have N:=BD g t (cs:=⟨k⟩) (i:=f.offset) (v:=R) (by simpa using A) w;have O:=BD g t (cs:=⟨l⟩) (i:=f.offset) (v:=S) (by simpa using B) w;have Q:=atV g F J p n w;simp only[Op.eqFields,ne_eq,m,not_false_eq_true,if_true,eE,N,O,Q,eO];cases a
  .simp
  .simpa using M
variable{H:bh}
theorem ark(hT:dH P T){z:TypeId}{y:Operand}{ds:List TypeDesc}(n:T.zW e=some ds){a:V}(b:aP C a (A i))(c:aP C l (A y))(h:CP ds [a,l]=some H):
 gk P C A ⟨dst,.binOp .neq e i y z,ty,pos,after,guard⟩ H:=by
 generalize o:A i=B at b
 generalize p:A y=D at c
 cases b<;>first|(cases h;done)|skip
 cases c<;>first|(cases h;done)|skip
 rename_i d v g f x j;obtain⟨q,k,h⟩:=aB.1 (show aq (EU ds d f) (λH=>jw (!H))=some H from h);cases h;intro w;obtain⟨r,s,t,u⟩:=hT.zW e ds n;have m:=Qv 9998 v x w _ ds 0 d f q u g j k;refine⟨.bool (!q),?_,.bool _⟩;simp only[execOp,o,p,eE,run_eqGuard_agg w .neq e i y _ _ t,eO,run_neq_struct,run_equalIn_agg w 9999 e _ _ r s,m,gl]
end
section
variable {P:Program}{C:aL}{H:ah}{w:World}{T:c6}{A:Operand->Value}{dst:Option Tmp}{ty:TypeId}{pos:String}{after:Array Edge}{guard:Option (Nat×Bool)}
theorem ak5(a:Nat):∀r c,c<=a->Builtin.growBy a r c<=2*a+200:=by
 intro r;induction r with
 |zero=>intro c b;simp[Builtin.growBy];omega
 |succ r d=>
  intro c b;unfold Builtin.growBy;split
  .omega
  .by_cases h:c+(c+768)/4<=a
   .exact d _ h
   .have:∀r c,a<=c->Builtin.growBy a r c=c:=by
     intro r c b;cases r with
     |zero=>rfl
     |succ r=>unfold Builtin.growBy;rw[ay b]
    grind
theorem nextslicecap_le{need old:Nat}(h:old<need):Builtin.nextslicecap need old<=2*need+200:=by
 unfold Builtin.nextslicecap
 grind [ak5]
variable{S:TypeInfo}{p:IntKind}{y:Array TypeId}
theorem VS{st:TypeId}(r:P.underlying st=some (.slice e))(hi:P.info? e=some S){z:Value}(u:S.zero=some z)(v:z.cells.size=S.size){d ty:TypeId}(t:P.underlying d=some (.int p))
 (i:y[0]? =some st) (b:y[1]? =some d) {kx:IntKind} (G:0<a) (C:a<=1099511627776) (D:a*S.bytes<=1099511627776):
 ∃c,a<=c/\(Builtin.append_ y ty #[.slice none 0 0,.int kx (a:Int)]).run P w=.ok (.slice (some ⟨w.heap.size,0,none⟩) a c) (w.drew.alloc (.cells (Builtin.zeroCells z.cells a++Builtin.zeroCells z.cells (c-a)) e)):=by
 have q:∀w,(sizeOf e).run P w=.ok S.size w:=by intro w;simp[sizeOf,sG hi]
 have f:(#[Value.slice none 0 0,.int kx (a:Int)]:Array Value)[0]? =some (.slice none 0 0):=rfl;have g:(#[Value.slice none 0 0,.int kx (a:Int)]:Array Value)[1]? =some (.int kx (a:Int)):=rfl;have o:¬(0+a<=0):=aa;have m:¬(((0+a:Nat):Int)>IntKind.i64.max):=by have:IntKind.i64.max=9223372036854775807:=ai;rw[this];omega
 have s:IntKind.i64.wrap (a:Int)=a:=by simp[uv,rQ,rR];omega
 have n:¬((a:Int)<0):=aa;have j:¬((a:Int)*(S.bytes:Int)>2^48):=by have:((a*S.bytes:Nat):Int)<=1099511627776:=aa;rw[fF]at this;omega
 have k:¬(Builtin.nextslicecap (0+a) 0*S.bytes>2^48):=by have b:=nextslicecap_le (need:=0+a) (old:=0) aa;have x:Builtin.nextslicecap (0+a) 0*S.bytes<=(2*(0+a)+200)*S.bytes:=ei _ b;have A:(2*(0+a)+200)*S.bytes=2*(a*S.bytes)+200*S.bytes:=b4;have B:S.bytes<=a*S.bytes:=yI _ aa;omega
 let c:=Question.cut (.appendCap (0+a) 0 e) (w.tape w.drawn (.appendCap (0+a) 0 e));have E:0+a<=c:=qP _ _;have l:(choose (.appendCap (0+a) 0 e)).run P w=.ok c { w with drawn:=w.drawn+1 }:=by simp[Question.forced,c]
 refine⟨c,aa,?_⟩;have F:a*S.size=0->Builtin.zeroCells z.cells a=#[]:=λh=>by simp[Builtin.zeroCells,v,h]
 unfold Builtin.append_;simp only[i,b,f,g,eE,run_underlying r,eO,q,run_underlying t,gl,if_true,asInt,asIntOf,s,ao n,sG hi,ao j,cg];simp only[ao o,m,false_and,if_false,eE,gl,eO,sG hi,ao k,l,run_askRoom,vm hi u,newRow,run_newObj,jQ,jk];have H:∀w:World,(Builtin.firstCells S.size 0 (.slice none 0 0)).run P w=.ok #[] w:=λw=>rfl
 simp_all [ay,ao,eE,vm,eO,gl,eW]
theorem arn{a:au}{w:World}(h:vQ C (.cells (a++c) 0) d w r):vQ C (.cells a 0) d w r:=by
 obtain⟨b,e,f,l,g,m,j,k⟩:=h;cases g;refine⟨b,e,f,a,rfl,?_,λi v n=>j i v ?_,k⟩
 .grind
 grind
def arl{a:Array Value}(h:bu C c a.toList)(w:World)(e:TypeId):vQ C (.cells c 0) a.size w (w.drew.alloc (.cells a e)):=
 have h:=Bs h w.drew e
 ⟨h.size,h.old,⟨rfl,rfl,rfl,λx=>h.same.free x,λb c t d x=>h.same.shape b c t d x⟩,h.obj⟩
variable{l:V}
theorem VR(hT:dH P T){st v:TypeId}(L:T.bI st=some (.slice e))(hi:T.info e=some S)(O:zeroCells T e=some c)(X:c.length=S.size)
 (M:T.bI v=some (.int p)) (B:y[0]? =some st) (E:y[1]? =some v) {x:Operand}{f:V} (q:aP C l (A i)) (s:aP C f (A x)) {r:bh} (h:Az S.bytes c [l,f]=some r):
 gk P C A ⟨dst,.call ⟨.builtin .append,#[i,x],y⟩,ty,pos,after,guard⟩ r:=by
 intro w;generalize K:A i=Y at q
 generalize N:A x=Z at s
 cases q<;>first|(cases h;done)|skip
 obtain⟨n,I,h⟩:=aB.1 (show aq (gZ f) _=some r from h);obtain⟨d,h⟩:=dA.1 h;cases h;rw[de,fV]at d;obtain⟨G,d⟩:=d;have k:n<=1099511627776/\n*S.bytes<=1099511627776:=by have g:=(de _ _).mp (show and (b6 n 1099511627776) (b6 (fz n S.bytes) 1099511627776)=true from d);exact⟨(fV _ _).1 g.1,(fV _ _).1 g.2⟩
 obtain⟨U,rfl⟩:=xy I;cases s;obtain⟨t,z,hi',Q,o⟩:=Ah hT O;have H:t=S:=by have:=hT.info e S hi;rw[hi']at this;exact Option.some.inj this
 subst H;have R:z.cells.size=t.size:=by have:=(o C).length;simp at this;omega
 obtain⟨a,j,J⟩:=VS (P:=P) (w:=w) (ty:=ty) (hT.bI L) hi' Q R (hT.bI M) B E (kx:=U) (show 0<n from G) k.1 k.2;have u:∀m,bu C (rep c m) (Builtin.zeroCells z.cells m).toList:=λm=>JO (o C) m
 have W:bu C (rep c n++rep c (a-n)) (Builtin.zeroCells z.cells n++Builtin.zeroCells z.cells (a-n)).toList:=by rw[Array.toList_append];exact(u n).append (u (a-n))
 refine⟨.slice (some ⟨w.heap.size,0,none⟩) n a,_,_,?_,arn (arl W w e),λD b F=>.slice F j j⟩;simp only[execOp,resolve,invoke,builtin];simp[K,N,J]
end
theorem V4{x y z:cl}(h:Bool.casesOn (motive:=λ_=>cl) n x y=z):x=z\/y=z:=by cases n<;>grind
theorem Wt{x y z:Option cl}(h:Bool.casesOn (motive:=λ_=>Option cl) n x y=z):x=z\/y=z:=by cases n<;>grind
theorem arM{o:Option f}{x z:Option cl}{a:f->Option cl}(h:Option.casesOn (motive:=λ_=>Option cl) o x a=z):x=z\/∃b,a b=z:=by cases o<;>grind
def dead{p q:Prop}(hc:p)(h:p->q:=by
 intro hc
 repeat' (first|(cases hc;done)|(obtain⟨_,hc⟩:=dA.1 hc)|(obtain⟨_,_,hc⟩:=aB.1 hc)|(replace hc:=ew hc aI)|(rcases arM hc with hc|⟨_,hc⟩)|(rcases Wt hc with hc|hc)|(replace hc:=Option.some.inj hc)|(rcases V4 hc with hc|hc)|(split at hc)|(unfold My at hc)|(unfold tB at hc)|(unfold yS at hc)|(unfold CY at hc)|(unfold Gh at hc)|(unfold Gi at hc))):q:=h hc
def kH(P:Program)(N:fh):Prop:=∀f fn,N.get none f=some fn->P.funcs[f]? =some fn
section
variable {P:Program}{C:aL}{A:Operand->Value}{T:c6}{N:fh}{F:Fr}
theorem qp{f:Fr->V}(a:kJ C F A [i])(h:gQ i=some f):aP C (f F) (A i):=a i aI f h
theorem z8{y:Operand}(e:kJ C F A [i,y])(h:jA [i,y]=some t):∃a b,vals t F=[a,b]/\aP C a (A i)/\aP C b (A y):=by
 have:=qq h e;generalize vals t F=l at this
 cases this with
 |cons f c=>cases c with
  |cons g d=>cases d;grind
theorem lk{a:Array f}{x:f}(h:dw a.toList d=some x):a[d]? =some x:=by grind [iu]
variable{K:au->Option bh}{H:bh}
theorem asA{m:BinOp}{z:TypeId}{y:Operand}{u:Option Tmp}{x:TypeId}{w:String}{after:Array Edge}{guard:Option (Nat×Bool)}(hT:dH P T){s:List (Fr->V)}
 (h:jA [i,y]=some s) (c:yS T m e s=.pu t K) (B:kJ C F A [i,y]) (g:K (vals t F)=some H):gk P C A ⟨u,.binOp m e i y z,x,w,after,guard⟩ H:=by
 unfold yS at c;obtain⟨a,b,p,j,l⟩:=z8 B h;split at c
 .rename_i k n;split at c
  .rename_i f o;cases c;rw[p]at g;generalize q:A i=E at j
   generalize r:A y=G at l
   cases j<;>first|(cases g;done)|skip
   cases l<;>first|(cases g;done)|skip
   exact amh o g q r
  .cases c
 .split at c
  .rename_i f o;cases c;rw[p]at g;generalize q:A i=E at j
   generalize r:A y=G at l
   cases j<;>first|(cases g;done)|skip
   cases l<;>first|(cases g;done)|skip
   exact au6 o g q r
  .cases c
 .rename_i I n;split at c
  .rename_i ds O;split at c
   .cases c
    grind [ark]
   .cases c
  .cases c
 .rename_i d J L M n;have N:∀neg,m=(if neg then .neq else .eql)->pI neg d (vals s F)=some H->gk P C A ⟨u,.binOp m e i y z,x,w,after,guard⟩ H:=by intro neg D g;rw[p]at g;obtain⟨v,g⟩:=dA.1 (show aX (zg d a) (H6 neg [a,b])=some H from g);refine ajy D (hT.bI n) j l ?_ v g rfl rfl;cases d<;>simp[zg]at v⊢
  split at c
  .simp_all
  .simp_all
  .cases c
 .cases c
theorem asC{d:TypeId}{o:Option Tmp}{u:TypeId}{s:String}{after:Array Edge}{guard:Option (Nat×Bool)}(hT:dH P T){f:Fr->V}
 (h:gQ i=some f) (a:tB T e d [f]=.pu t K) (q:kJ C F A [i]) (l:K (vals t F)=some H):gk P C A ⟨o,.convert e d i,u,s,after,guard⟩ H:=by
 have b:=qp q h;unfold tB at a;split at a
 .rename_i k m j c;cases a;have g:(match [f F]with|[.int _ n]=>jL m (aE m n)|_=>none)=some H:=l;generalize f F=v at b g
  generalize r:A i=y at b
  cases b<;>first|(cases g;done)|skip
  cases g;exact XP r (hT.bI j) (hT.bI c)
 .rename_i w j c;split at a
  .rename_i p;cases a;exact avz (hT.bI j) (hT.bI c) (hT.bI p) b l
  .cases a
 .grind
 .cases a
end
section
variable {P:Program}{C:aL}{A:Operand->Value}{T:c6}{N:fh}{F:Fr}
theorem Ue{y z:Operand}(g:kJ C F A [i,y,z])(h:jA [i,y,z]=some t):∃a b c,vals t F=[a,b,c]/\aP C a (A i)/\aP C b (A y)/\aP C c (A z):=by
 have:=qq h g;generalize vals t F=l at this
 cases this with
 |cons j d=>cases d with
  |cons k e=>cases e with
   |cons m f=>cases f;grind
variable{y:Array TypeId}{K:au->Option bh}{H:bh}
theorem asB{b:Builtin}{args:Array Operand}{D:Option Tmp}{L:String}{after:Array Edge}{guard:Option (Nat×Bool)}(hT:dH P T){B:List (Fr->V)}
 (h:jA args.toList=some t) (c:CY T b y.toList t=.pu B K) (I:kJ C F A args.toList) (g:K (vals B F)=some H):gk P C A ⟨D,.call ⟨.builtin b,args,y⟩,e,L,after,guard⟩ H:=by
 have c:=ew c aI;obtain⟨S,J,c⟩:=aB.1 c;obtain⟨d,q,c⟩:=aB.1 c;have r:=lk J;have j:=qq h I;have u:∀ {f:V->Option bh},un f (vals t F)=some H->∃x v,args=#[x]/\aP C v (A x)/\f v=some H:=by
  intro f hh;generalize vals t F=l at j hh
  obtain⟨m⟩:=args
  match l,hh with
  |[v],hh=>
   match m with
   |[]=>cases j
   |[x]=>cases j with|cons p k=>exact⟨x,v,rfl,p,hh⟩
   |_::_::_=>cases j with|cons p k=>cases k
  |[],hh=>cases hh
  |_::_::_,hh=>cases hh
 cases b<;>simp only[reduceCtorEq]at c
 case append=>
  split at c
  .rename_i N;obtain⟨i,hi,c⟩:=aB.1 c;obtain⟨z,o,c⟩:=aB.1 c;obtain⟨X,R,c⟩:=aB.1 c;obtain⟨G,c⟩:=dA.1 c;rw[beq_eq,iw]at G;cases z
   .cases c
   .cases c;obtain⟨U,Q,o⟩:=aB.1 o;obtain⟨M,O,o⟩:=aB.1 o;cases M<;>first|(cases o;done)|skip
    generalize vals t F=l at j g
    obtain⟨m⟩:=args
    match l,g with
    |[s,W],g=>
     match m with
     |[]=>cases j
     |[_]=>cases j with|cons _ k=>cases k
     |[a,b]=>cases j with|cons p k=>cases k with|cons E w=>grind [VR,lk]
     |_::_::_::_=>cases j with|cons p k=>cases k with|cons E w=>cases w
    |[],g=>cases g
    |[_],g=>cases g
    |_::_::_::_,g=>cases g
  .cases c
 case cap=>
  split at c
  .cases c;obtain⟨x,v,rfl,n,g⟩:=u g;exact W5 r (hT.bI q) n g
  .cases c
 case copy=>
  split at c
  .obtain⟨s,_,c⟩:=aB.1 c;cases c
  .cases c
 case len=>
  split at c
  .cases c;obtain⟨x,v,rfl,n,g⟩:=u g;exact ap1 r (hT.bI q) n g
  .cases c;obtain⟨x,v,rfl,n,g⟩:=u g;exact apZ r (hT.bI q) n g
  .cases c;obtain⟨x,v,rfl,n,g⟩:=u g;cases g;exact apY r (hT.bI q)
  .cases c
  .cases c
 case max=>cases c;exact aqK j g
 case min=>cases c;exact aqQ j g
theorem S7(hT:dH P T)(b_:kH P N)(hA:∀f,A (.func f)=.func (.func f) #[] #[]) (o:Oper) (g:cop N T o.op=.pu t K) (B:kJ C F A o.op.operands.toList) (r:K (vals t F)=some H):gk P C A o H:=by
 obtain⟨a4,S,ty,a',after,guard⟩:=o;simp only at g B;cases S<;>simp only[cop,reduceCtorEq]at g<;>simp only[Op.operands]at B
 case move x=>
  obtain⟨f,j,g⟩:=aB.1 (ew g aI);cases g;cases r
  grind [aqW,qp]
 case pick c x y=>
  obtain⟨I,j,g⟩:=aB.1 (ew g aI);cases g;obtain⟨a,b,d,G,w,U,h3⟩:=Ue B j;rw[G]at r;generalize D:A c=c' at w
  cases w<;>first|(cases r;done)|skip
  rename_i E;cases E
  .cases r
   grind [SV]
  .cases r
   grind [SV]
 case alloc E=>
  obtain⟨zs,X,g⟩:=aB.1 (ew g aI)
  grind [VI]
 case box E x=>
  obtain⟨f,j,g⟩:=aB.1 (ew g aI);cases g;obtain⟨hk,r⟩:=dA.1 (show aX (bM (f F)) (some (bh.new (cellsOf (f F)) .ptr))=some H from r)
  grind [Wz,qp]
 case build E parts=>grind [WK]
 case buildSlice E n parts=>grind [WJ]
 case nilCheck x=>
  obtain⟨f,j,g⟩:=aB.1 (ew g aI);cases g;have w:=qp B j;have z:Bt [f F]=some H:=r;generalize f F=v at w z
  generalize D:A x=x' at w
  cases w<;>first|(cases z;done)|skip
  .rename_i b o l M;cases z;exact Sz D (.ptr M)
  .rename_i k c o cs vs y hi g G;cases z;exact Sz D (.dY hi g G)
 case binOp S E x y bd=>
  obtain⟨I,j,g⟩:=aB.1 (ew g aI)
  grind [Option.some.injEq,cl.pu.injEq,asA]
 case unOp S E x=>
  obtain⟨f,j,g⟩:=aB.1 (ew g aI);have w:=qp B j;cases S<;>simp only[reduceCtorEq]at g
  .cases g;have z:(match [f F]with|[.int k n]=>jL k (aE k (Int.sub (.ofNat 0) n))|_=>none)=some H:=r;generalize f F=v at w z
   generalize D:A x=x' at w
   cases w<;>first|(cases z;done)|skip
   cases z;exact arj D
  .cases g;have z:(match [f F]with|[.bool b]=>jw (!b)|_=>none)=some H:=r;generalize f F=v at w z
   generalize D:A x=x' at w
   cases w<;>first|(cases z;done)|skip
   cases z;exact arD D
 case convert s d x=>
  obtain⟨f,j,g⟩:=aB.1 (ew g aI)
  grind [Option.some.injEq,cl.pu.injEq,asC]
 case makeFunc fn first captured=>
  cases fn<;>simp only[reduceCtorEq]at g;obtain⟨I,j,g⟩:=aB.1 (ew g aI);cases g;obtain⟨q,D,r⟩:=aB.1 r;cases r;obtain⟨a,L,D⟩:=aB.1 D;cases D;have Q:kJ C F A (dJ first.toList captured.toList):=by rw[iW];intro y W;exact B y (by simpa using W)
  have G:=qq j Q;rw[iW,vJ]at G;rw[iw]at L;rw[fB]at L;split at L
  .cases L;have hl:first.toList.length=af (first.toList.map A):=aI
   refine aqB ?_ ?_
   .have:=G.take first.toList.length
    grind
   .have:=G.drop first.toList.length
    grind [List.drop_left,iw,l8]
  .cases L
 case makeSlice E l c=>
  obtain⟨I,j,g⟩:=aB.1 (ew g aI);obtain⟨d,J,g⟩:=aB.1 g;cases d<;>simp only[reduceCtorEq]at g;obtain⟨i,hi,g⟩:=aB.1 g;obtain⟨zs,X,g⟩:=aB.1 g;obtain⟨R,g⟩:=dA.1 g;cases g
  grind [beq_eq,iw,z8,aqF]
 case slice E x lo hi mx=>
  obtain⟨I,j,g⟩:=aB.1 (ew g aI);obtain⟨d,J,g⟩:=aB.1 g;have Q:kJ C F A (x::(lo.toList++hi.toList++mx.toList)):=by
   intro y W;refine B y ?_
   grind
  cases d<;>simp only[reduceCtorEq]at g
  case string=>
   cases g;obtain⟨a,l,h,m,L,hl,hh,Z,_,r⟩:=Ka j Q r;cases a<;>first|(cases r;done)|skip
   exact auy (n:=1) (hT.bI J) L hl hh Z ⟨_,rfl⟩ r
  case slice e=>
   obtain⟨s,R,g⟩:=aB.1 g;cases g;obtain⟨a,l,h,m,L,hl,hh,Z,a8,r⟩:=Ka j Q r;have ar:∀s,a≠ .str s:=by intro s he;subst he;cases r
   have z:B3 s a l h m=some H:=by cases a<;>first|exact absurd rfl (ar _)|exact r
   grind [auw]
  case array n e=>
   obtain⟨s,R,g⟩:=aB.1 g;cases g
   grind [Ka,aut]
 case fieldAddr s x f=>obtain⟨p,j,g⟩:=aB.1 (ew g aI);obtain⟨d,J,g⟩:=aB.1 g;cases d<;>simp only[reduceCtorEq]at g;obtain⟨fd,O,g⟩:=aB.1 g;obtain⟨n,V,g⟩:=aB.1 g;obtain⟨X,g⟩:=dA.1 g;cases g;rw[iu]at O;exact aj' hT J O V (by intro h0;subst h0;simp[fN]at X) (qp B j) r
 case field s x f=>obtain⟨p,j,g⟩:=aB.1 (ew g aI);obtain⟨d,J,g⟩:=aB.1 g;cases d<;>simp only[reduceCtorEq]at g;obtain⟨fd,O,g⟩:=aB.1 g;obtain⟨n,V,g⟩:=aB.1 g;obtain⟨K,hg,g⟩:=aB.1 g;cases g;rw[iu]at O;exact aka hT J O V hg (qp B j) r
 case indexAddr E x i=>
  obtain⟨I,j,g⟩:=aB.1 (ew g aI);obtain⟨d,J,g⟩:=aB.1 g;obtain⟨a,b,G,w,U⟩:=z8 B j;cases d<;>simp only[reduceCtorEq]at g
  case slice e=>
   obtain⟨s,R,g⟩:=aB.1 g;cases g
   grind [ama]
  case array n e=>
   obtain⟨s,R,g⟩:=aB.1 g;cases g
   grind [al']
 case index E x i=>
  obtain⟨I,j,g⟩:=aB.1 (ew g aI);obtain⟨d,J,g⟩:=aB.1 g;obtain⟨a,b,G,w,U⟩:=z8 B j;cases d<;>simp only[reduceCtorEq]at g
  case string=>cases g;rw[G]at r;exact amd (hT.bI J) w U r
 case extract x i=>
  obtain⟨f,j,g⟩:=aB.1 (ew g aI);cases g;have w:=qp B j;have z:AY i [f F]=some H:=r;generalize f F=v at w z
  cases v<;>first|(cases z;done)|skip
  obtain⟨u,hu,z⟩:=aB.1 (show aq (dw _ i) (λv=>some (bh.val v))=some H from z)
  grind [iu,ajZ]
 case call c=>
  obtain⟨callee,args,ts⟩:=c;have Y:=ew g aI;clear g;have g:=Y;clear Y;have aw:kJ C F A args.toList:=λy W=>B y (by simp[Call.operands];grind)
  cases callee with
  |value x=>
   cases x<;>simp only[]at g
   case func f=>
    obtain⟨fn,al,g⟩:=aB.1 g;obtain⟨I,j,g⟩:=aB.1 g;cases M:fn.body with
    |some c=>rw[M]at g;cases g
    |none=>rw[M]at g;obtain⟨a0,g⟩:=dA.1 g;obtain⟨g',ap,g⟩:=aB.1 g;cases g;exact ajY (hA f) (b_ f fn al) M (by simpa using a0) ap (qq j aw) r
   all_goals
    obtain⟨I,j,g⟩:=aB.1 g;cases g
  |invoke x m=>cases g
  |builtin b=>
   obtain⟨I,j,g⟩:=aB.1 g
   grind [Option.some.injEq,cl.pu.injEq,asB]
 all_goals exact dead g
end
section
variable {P:Program}{C:aL}{A:Operand->Value}{T:c6}{N:fh}{F:Fr}{H:ah}{w:World}
variable{z:V->V->Option Bool}
theorem A9(h:tL T e=some z):∃n c ds,T.bI e=some (.array n c)/\yO T e=some ds/\
 z=λa b=>match a with|.agg x=>(match b with|.agg y=>oM ds x y|_=>aN)|_=>aN:=by
 obtain⟨ds,f,h⟩:=aB.1 (show aq (yO T e) _=some z from h);cases h;obtain⟨d,g,h⟩:=aB.1 (show aq (T.bI e) _=some ds from f)
 grind
variable{l:V}
theorem IN{ds:List TypeDesc}{a:V}(h:(match a with|.agg x=>(match l with|.agg y=>oM ds x y|_=>aN)|_=>aN)=some n):∃x y,a=.agg x/\l=.agg y/\oM ds x y=some n:=by grind
def aP.Ax{v:Value}(h:aP C (.agg c) v):∃a,v=.agg ⟨a⟩/\bu C c a:=by
 cases h with
 |agg h=>exact⟨_,rfl,h⟩
theorem RO(hT:dH P T)(g:tL T e=some z){a:V}{b c:Value}(d:aP C a b)(f:aP C l c)(h:z a l=some n)(w:World):(Op.equal e b c).run P w=.ok n w:=by
 obtain⟨_,_,ds,_,i,rfl⟩:=A9 g;obtain⟨x,y,rfl,rfl,j⟩:=IN h;obtain⟨o,rfl,k⟩:=d.Ax;obtain⟨p,rfl,m⟩:=f.Ax
 grind [VD]
def atT(a b:Value):Instr.sameNow (.array d e) a b=none:=by cases a<;>cases b<;>rfl
def uq(C:aL)(i:Nat):List (V×V)->List MapEntry->Prop
 |[],[]=>True
 |(k,v)::a,e::b=>aP C k e.key/\aP C v e.val/\e.born=i/\uq C (i+1) a b
 |_,_=>False
theorem ajw{b:List (V×V)}{a:List MapEntry}:∀ {i:Nat},uq C i b a↔af a=af b/\∀j k v,b[j]? =some (k,v)->∃e:MapEntry,a[j]? =some e/\aP C k e.key/\aP C v e.val/\e.born=i+j:=by
 induction b generalizing a with
 |nil=>
  intro i;cases a with
  |nil=>simp[uq]
  |cons=>simp[uq]
 |cons x b h=>
  intro i;obtain⟨k,v⟩:=x;cases a with
  |nil=>simp[uq]
  |cons e a=>
   simp only[uq,h,dZ];constructor
   .grind
   .rintro⟨u,d⟩;obtain⟨o,c,f,g3,t⟩:=d 0 k v aI;simp at c;subst c;refine⟨f,g3,aa,aa,?_⟩;intro j l m g;obtain⟨n,p,q,r,s⟩:=d (j+1) l m (by simpa using g)
    grind
def Se{a:List (V×V)}{b:List MapEntry}:s7 C a b↔uq C 0 a b:=by rw[ajw];simp[s7]
theorem Si{e:V×V}{c:List (V×V)}{r:Option (Nat×V)}(h:rm z l (e::c) a=some r):
 ∃b,z l e.1=some b/\((b=true/\r=some (a,e.2))\/(b=false/\rm z l c (a+1)=some r)):=by
 obtain⟨b,d,h⟩:=aB.1 (show aq (z l e.1) (λr=>Bool.casesOn (motive:=λ_=>Option (Option (Nat×V))) r (rm z l c (a+1)) (some (some (a,e.2))))=some r from h);cases b with
 |true=>grind
 |false=>grind
def KU(C:aL):Option (Nat×V)->Option (Nat×Value)->Prop
 |none,none=>True
 |some (i,v),some (j,a)=>i=j/\aP C v a
 |_,_=>False
def akb(hT:dH P T)(k:tL T e=some z){n:Value}(m:aP C l n)(w:World):∀ {c:List (V×V)}{a:List MapEntry}{i:Nat}{r:Option (Nat×V)},uq C i c a->rm z l c i=some r->
 ∃f,(Instr.findAsking e n a i).run P w=.ok f w/\KU C r f:=by
 intro c;induction c with
 |nil=>
  intro a i r d h;cases a with
  |nil=>cases h;exact⟨none,rfl,trivial⟩
  |cons=>exact d.elim
 |cons x c y=>
  intro a i r d h;obtain⟨B,v⟩:=x;cases a with
  |nil=>exact d.elim
  |cons o a=>
   obtain⟨g,s,A,t⟩:=d;obtain⟨b,j,⟨rfl,rfl⟩|⟨rfl,u⟩⟩:=Si h
   .exact⟨some (i,o.val),by simp[Instr.findAsking,RO hT k m g j],rfl,s⟩
   .obtain⟨f,p,q⟩:=y t u;exact⟨f,by simp[Instr.findAsking,RO hT k m g j,p],q⟩
def Qx(hT:dH P T)(j:tL T e=some z){k:Value}(p:aP C l k){c:List (V×V)}{d:List MapEntry}{r:Option (Nat×V)}(o:s7 C c d)(h:rm z l c 0=some r)(w:World):
 ∃f,(Instr.findKey e k d).run P w=.ok f w/\KU C r f:=by
 have i:=Se.1 o;obtain⟨_,_,ds,g,s,t⟩:=A9 j;cases d with
 |nil=>
  cases c with
  |nil=>cases h;exact⟨none,by simp[Instr.findKey,run_underlying (hT.bI g),Instr.findNow],trivial⟩
  |cons x c=>obtain⟨a,b⟩:=x;exact i.elim
 |cons q d=>obtain⟨f,m,n⟩:=akb hT j p w i h;exact⟨f,by simp[Instr.findKey,run_underlying (hT.bI g),Instr.findNow,atT,m],n⟩
def Xm(hT:dH P T)(b:T.bI e=some E)(c:wq E=true)(a:Bool)(n:Nat)(v:Value)(w:World):(Instr.checkKey a (n+1) e v).run P w=.ok () w:=by have d:=run_underlying (hT.bI b) w;cases E<;>first|(cases c;done)|(simp only[Instr.checkKey,eE,d,eO];rfl)
def Xn(hT:dH P T)(k:T.bI e=some E)(l:wq E=true)(g:Bool)(n:Nat)(f:List Value)(w:World)(B:(sizeOf e).run P w=.ok 1 w):∀(d i:Nat) (c:au) (r:Bool),bu C c (f.drop i)->oM (BO E d) c c=some r->
 (forIn (List.range' i d) PUnit.unit (λj _=>do
   Instr.checkKey g (n+1) e (<-part e ⟨f⟩ (j*(<-sizeOf e)))
   pure (ForInStep.yield PUnit.unit)):Sem PUnit).run P w=.ok () w:=by
 intro d;induction d with
 |zero=>intro i c r _ _;simp
 |succ d z=>intro i c r t h;obtain⟨x,c,y,J,a,b,rfl,s,A,p,rfl⟩:=Gw (show oM (E::BO E d) c c=some r from h);cases s;obtain⟨m,I,v,D,u⟩:=t.cons_inv;obtain⟨q,o⟩:=AU v;have F:=z (i+1) c b (by rw[o];exact u) p;have G:=BD (hT.bI k) l (cs:=⟨f⟩) (i:=i*1) (v:=m) (by simpa using q) w;have H:=Xm hT k l g n m w;simp_all [List.range'_succ,List.forIn_cons,eE,eO,gl]
def ML(hT:dH P T)(r:tL T e=some z){j:Value}(s:aP C l j)(h:z l l=some n)(c:Bool)(w:World):(Instr.checkKey c 10000 e j).run P w=.ok () w:=by
 obtain⟨v,b,ds,f,a,rfl⟩:=A9 r;obtain⟨x,y,rfl,q,k⟩:=IN h;cases q;obtain⟨A,rfl,u⟩:=s.Ax;obtain⟨B,g,a⟩:=aB.1 (show aq (T.bI e) _=some ds from a);rw[f]at g;cases g;have E:=hT.bI f;obtain⟨D,p,a⟩:=aB.1 (show aq (T.bI b) _=some ds from a);obtain⟨m,a⟩:=dA.1 a;obtain⟨i,o,a⟩:=aB.1 a;obtain⟨d,a⟩:=dA.1 a;cases a;rw[beq_eq]at d;have t:(sizeOf b).run P w=.ok 1 w:=by have:=sG (hT.info b i o) w;simp[sizeOf,this,d]
 have:=Xn hT p m c 9998 A w t v 0 x n u k;rw[show(10000:Nat)=9998+1+1 from rfl];unfold Instr.checkKey;simp_all [eE,run_underlying,eO]
def IX{b:List (V×V)}(h:H.j9 a=some b):H.get a=.bW (.map b):=by
 unfold ah.j9 at h;cases c:H.get a<;>rw[c]at h<;>first|(cases h;done)|skip
 rename_i o;cases o<;>cases h;rfl
def Bm(f:Rel C H w){l:Loc}(e:C a=some l){b:List (V×V)}(h:H.j9 a=some b):∃d,w.heap[l.c]? =some (.map ⟨d⟩ b.length)/\s7 C b d:=(f.bW e (IX h)).2
def ID:Obj->Bool
 |.cells _ _ _=>true
 |_=>false
def wS{o:Obj}(h:w.heap[a]? =some o)(b:ID o=false):(getObj a).run P w=.ok o w:=by cases o<;>first|(cases b;done)|simp[getObj,Sem.run,h]
section
variable {dst:Option Tmp}{ty:TypeId}{pos:String}{after:Array Edge}{guard:Option (Nat×Bool)}
variable{S:TypeInfo}
def aqp(hT:dH P T)(Y:Rel C H w){t c:TypeId}{y:Operand}(U:T.bI e=some (.map t c))(g:tL T t=some z)(hi:T.info c=some S){K:Value}(Z:S.zero=some K)(ab:ow 20 K=some l)
 {m k:V} (E:aP C m (A i)) (D:aP C k (A y)) {v:V} (x:wD z l n [m,k] H=some v):∃a,(execOp A ⟨dst,.lookup e i y n,ty,pos,after,guard⟩).run P w=.ok (.value a) w/\aP C v a:=by
 obtain⟨b,R,h⟩:=aB.1 (show aq (z k k) _=some v from x);clear x;have p:=run_underlying (hT.bI U) w;have f:=λL=>ML hT g D R L w
 have G:=vm (hT.info c S hi) Z w;have I:=Fg C _ _ _ ab;have o:∀ {v:V}{a:Value} (b:Bool),aP C v a->aP C (wF n v b) (if n then .tuple #[a,.bool b]else a):=by
  intro v a b F;cases n
  .exact F
  .exact .aH (.cons F (.cons (.bool b) .nil))
 generalize s:A i=x' at E
 cases E<;>first|(cases h;done)|skip
 .rename_i ac ap X;obtain⟨es,O,h⟩:=aB.1 (show aq (H.j9 ac) _=some v from h);obtain⟨r,Q,h⟩:=aB.1 h;obtain⟨al,M,N⟩:=Bm Y X O;obtain⟨J,g3,d⟩:=Qx hT g D N Q w;have B:=wS (P:=P) M rfl;cases r with
  |none=>
   cases h;cases J with
   |none=>refine⟨_,?_,o false I⟩;simp only[execOp,Instr.lookup,s,eE,p,eO,B,f,g3,G,gl]
   |some q=>exact d.elim
  |some q=>
   obtain⟨j,u⟩:=q;cases h;cases J with
   |none=>exact d.elim
   |some q'=>obtain⟨j',u'⟩:=q';refine⟨_,?_,o true d.2⟩;simp only[execOp,Instr.lookup,s,eE,p,eO,B,f,g3,gl]
 .cases h;refine⟨_,?_,o false I⟩;have g3:(Instr.findKey t (A y) []).run P w=.ok none w:=by obtain⟨_,_,_,W,_⟩:=A9 g;simp[Instr.findKey,run_underlying (hT.bI W),Instr.findNow]
  simp only[execOp,Instr.lookup,s,eE,p,eO,f,g3,G,gl]
variable{y:Array TypeId}
def ap0(hT:dH P T)(q:Rel C H w){r g:TypeId}(n:T.bI e=some (.map r g))(b:y[0]? =some e)(a:aP C l (A i)){v:V}(h:wA [l] H=some v):
 ∃f,(execOp A ⟨dst,.call ⟨.builtin .len,#[i],y⟩,ty,pos,after,guard⟩).run P w=.ok (.value f) w/\aP C v f:=by
 have c:=run_underlying (hT.bI n) w;generalize d:A i=z at a
 cases a<;>first|(cases h;done)|skip
 .rename_i s x p;obtain⟨t,m,h⟩:=aB.1 (show aq (H.j9 s) _=some v from h);cases h;obtain⟨u,j,k⟩:=Bm q p m;have o:=wS (P:=P) j rfl;refine⟨_,?_,.int .i64 _⟩;simp[execOp,resolve,invoke,builtin,Builtin.len_,d,b,c,o,goInt,iw,k.1]
 .cases h;refine⟨_,?_,.int .i64 _⟩;simp[execOp,resolve,invoke,builtin,Builtin.len_,d,b,c,goInt]
theorem ajx{b:List (V×V)}{a:List MapEntry}:∀ {i j:Nat}{e:V×V},uq C i b a->b[j]? =some e->∃x:MapEntry,a.find? (λx=>x.born==i+j)=some x/\aP C e.1 x.key/\aP C e.2 x.val:=by
 induction b generalizing a with
 |nil=>grind
 |cons y b m=>
  intro i j e c h;obtain⟨k,v⟩:=y;cases a with
  |nil=>exact c.elim
  |cons x a=>
   obtain⟨d,f,g,l⟩:=c
   grind
def ajv(p:Rel C H w)(n:aP C l (A i)){v:V}(h:uS [l] H=some v):
 ∃r,(execOp A ⟨dst,.entry i,ty,pos,after,guard⟩).run P w=.ok (.value r) w/\aP C v r:=by
 generalize K:A i=R at n
 cases n<;>first|(cases h;done)|skip
 rename_i b o N E;cases o with
 |succ o=>cases h
 |zero=>
  have a:(match H.get b with
   |.bW (.iter l _ _ f q)=>aq (H.j9 l) λc=>aX (bt (c_ c) q)<|aq f λd=>aq (dw c d) λe=>some (.aH [e.1,e.2])
   |_=>aN)=some v:=h
  cases m:H.get b<;>rw[m]at a<;>first|(cases a;done)|skip
  rename_i L;cases L<;>first|(cases a;done)|skip
  rename_i Q since left f q;obtain⟨c,D,a⟩:=aB.1 a;obtain⟨g,a⟩:=dA.1 a;obtain⟨d,j,a⟩:=aB.1 a;obtain⟨e,k,a⟩:=aB.1 a;cases a;obtain⟨G,O,seen,x,y,_,B,_⟩:=p.bW E m;obtain⟨M,g3,z⟩:=Bm p x D;rw[beq_eq,iw]at g;rw[<-B]at j;rw[iu]at k;obtain⟨i,s,t,u⟩:=ajx (Se.1 z) k;rw[eW]at s;have I:=wS (P:=P) y rfl;have J:=wS (P:=P) g3 rfl;refine⟨.tuple #[i.key,i.val],?_,.aH (.cons t (.cons u .nil))⟩;have F:(⟨seen⟩:Array Nat).back?=some d:=by rw[Array.back?_eq_getElem?];simpa [List.getLast?_eq_getElem?]using j
  simp only[execOp,Instr.entry,K,G,dG,eE,I,eO,F,J,g];simp_all
end
end
theorem ah.aT(H:ah)(a b:Nat)(o:dU):(H.set a o).get b=if a=b then o else H.get b:=aY.aT dU.none H.m a b o
theorem ah.bl(H:ah)(b:Nat)(o:dU):(H.push o).get b=if H.ag=b then o else H.get b:=aY.aT dU.none H.m H.ag b o
theorem gJ:b.gr a d=true↔d=0\/∃c br,b.get d=.bV c br/\br<=a:=by
 cases d with
 |zero=>exact⟨λ_=>.inl rfl,λ_=>rfl⟩
 |succ d=>
  have e:b.gr a (d+1)=dU.casesOn (motive:=λ_=>Bool) (b.get (d+1)) false (λ_ _=>false) (λ_ br=>b6 br a) (λ_=>false):=rfl;rw[e];cases h:b.get (d+1)with
  |bV c br=>simp;grind
  |_=>simp
theorem cells?_some(h:b.cells? a=some c):∃g,b.get a=.cells c g/\b.gr a g=true:=by
 unfold ah.cells? at h;cases d:b.get a with
 |cells e g=>
  rw[d]at h;obtain⟨f,i⟩:=dA.1 h
  grind
 |_=>rw[d]at h;cases h
section
variable {P:Program}{C:aL}{H:ah}{w:World}
def aqi(k:Rel C H w){l:Loc}(i:C a=some l){v:V}(h:H.load a d=some v):∃b,w.cell? ⟨l.c,l.base+d,none⟩=some b/\aP C v b:=by obtain⟨m,j,h⟩:=aB.1 h;obtain⟨g,e,f⟩:=cells?_some j;rw[iu]at h;exact k.cell i e f h
variable{m:Nat}
theorem zA(u:Rel C H w){l:Loc}(r:C a=some l){n:au}(h:H.dz a d m=some n):
 ∃f,f.length=m/\bu C n f/\∀j v,f[j]? =some v->w.cell? ⟨l.c,l.base+d+j,none⟩=some v:=by
 obtain⟨e,s,h⟩:=aB.1 h;obtain⟨g,p,q⟩:=cells?_some s;rw[fB,l8]at h;split at h
 .rename_i t;cases h;rw[lB]at t;have z:∀j,j<m->∃v b,e[d+j]? =some v/\w.cell? ⟨l.c,l.base+d+j,none⟩=some b/\aP C v b:=by intro j A;have k:d+j<e.length:=aa;obtain⟨b,y,o⟩:=u.cell r p q (i:=d+j) (v:=e[d+j]) (by simp[k]);exact⟨_,b,by simp[k],by grind,o⟩
  refine⟨(kZ m).map λj=>(w.cell? ⟨l.c,l.base+d+j,none⟩).getD undef,aI,?_,?_⟩
  .refine .SG e7 (λi x B=>?_)
   grind
  grind
 .cases h
variable{D:Nat}
theorem JV(l:Rel C H w){q:au}{f:List Value}{y:Obj}(hi:C.im a=some y)(h:bu C c f)(n:∀i v,f[i]? =some v->Obj.at y (d+i) v)(e:cW (eH c m) D=some q):
 ∃g,g.length=D/\bu C q g/\∀j v,g[j]? =some v->w.cell? ⟨a,d+m+j,none⟩=some v:=by
 rw[fB,l8]at e;split at e
 .rename_i k;cases e;rw[lB]at k;have o:=h.length;refine⟨(f.drop m).take D,by simp;omega,(h.drop m).take D,?_⟩;intro j v b;rw[List.getElem?_take]at b;split at b
  .rw[yD]at b;have:=n _ _ b w a (l.gf hi).obj
   grind
  .cases b
 .cases e
variable {A:Operand->Value}{T:c6}{N:fh}{F:Fr}
theorem BV{b:List Value}(hl:af b=m)(h:∀j v,b[j]? =some v->w.cell? ⟨a,d+j,none⟩=some v):(loadCells ⟨a,d,none⟩ m).run P w=.ok b.toArray w:=by grind [run_loadCells_list,nV]
variable{l:V}
def R9(hT:dH P T)(s:Rel C H w)(r:T.isAgg e=some n)(z:iZ T e=some d){B:Value}(F:aP C l B){v:V}(h:jd n d [l] H=some v):
 ∃a,B=.pointer (some a)/\∃j,(loadVar e a).run P w=.ok j w/\aP C v j:=by
 cases F<;>first|(cases h;done)|skip
 .rename_i b o G x;refine⟨_,rfl,?_⟩;cases n with
  |false=>obtain⟨j,g,i⟩:=aqi s x (show H.load b o=some v from h);exact⟨j,by simp[loadVar,BU hT r,g],i⟩
  |true=>obtain⟨f,p,h⟩:=aB.1 (show aq (H.dz b o d) (λf=>some (.agg f))=some v from h);cases h;obtain⟨t,g,i,m⟩:=zA s x p;refine⟨.agg ⟨t⟩,?_,.agg i⟩;simp only[loadVar,eE,BU hT r,eO,if_true,m5 hT z,BV g m,gl]
 .rename_i k c o f I y hi p A;refine⟨_,rfl,?_⟩;have D:=(s.gf hi).obj;cases n with
  |false=>have u:dw f k=some v:=h;rw[iu]at u;obtain⟨j,g,i⟩:=p.get _ _ u;have m:=A _ _ g w c D;exact⟨j,by simp[loadVar,BU hT r,m],i⟩
  |true=>obtain⟨q,E,h⟩:=aB.1 (show aq (cW (eH f k) d) (λf=>some (.agg f))=some v from h);cases h;obtain⟨t,g,i,m⟩:=JV s hi p A E;refine⟨.agg ⟨t⟩,?_,.agg i⟩;simp only[loadVar,eE,BU hT r,eO,if_true,m5 hT z,BV g m,gl]
def Md{d:List Value}(h:bu C c d){s:aW}(a:bytesOf c=some s):d=s.map λb=>Value.int .u8 b.toNat:=by
 induction c generalizing d s with
 |nil=>cases h;cases a;rfl
 |cons v c j=>
  cases h with
  |cons e f=>
   cases e<;>first|(cases a;done)|skip
   rename_i k n;cases k<;>cases n<;>first|(cases a;done)|skip
   rename_i n;obtain⟨g,a⟩:=dA.1 (show aX (b6 (Nat.succ n) 256) (aq (bytesOf c) λr=>some (iD n::r))=some s from a);obtain⟨r,i,a⟩:=aB.1 a;cases a;rw[fV]at g;rw[j f i];simp;omega
theorem Th(hT:dH P T)(O:Rel C H w)(o:Oper){g:au->ah->Option V}(k:cop N T o.op=.rd t g)(L:kJ C F A o.op.operands.toList){v:V}(h:g (vals t F) H=some v):
 ∃X,(execOp A o).run P w=.ok (.value X) w/\aP C v X:=by
 obtain⟨a2,bs,ty,bv,after,guard⟩:=o;simp only at k L;cases bs<;>simp only[cop,reduceCtorEq]at k<;>simp only[Op.operands]at L
 case load a1 a=>obtain⟨f,K,k⟩:=aB.1 (ew k aI);obtain⟨g,hg,k⟩:=aB.1 k;obtain⟨n,hn,k⟩:=aB.1 k;cases k;obtain⟨b',r,X,D,h3⟩:=R9 hT O hg hn (qp L K) (show jd g n [f F] H=some v from h);exact⟨X,by simp[execOp,Instr.loadAt,r,yA,D],h3⟩
 case convert s d x=>
  obtain⟨f,K,k⟩:=aB.1 (ew k aI);have M:tB T s d [f]=.rd t g:=Option.some.inj k;unfold tB at M;split at M<;>first|(cases M;done)|skip
  .grind
  .rename_i e Q B;split at M
   .rename_i G;cases M;have r:=qp L K;have p:vt [f F] H=some v:=h;generalize f F=u at r p
    generalize hq:A x=x' at r
    have S:∀ {a:Option Addr}{len U:Nat}{y:Value},(convert s d (.slice a len U)).run P w=.ok y w->x'=.slice a len U->(execOp A ⟨a2,.convert s d x,ty,bv,after,guard⟩).run P w=.ok (.value y) w:=by intro a len U y h G;simp only[execOp,hq,G];rw[eE,h];rfl
    cases r<;>first|(cases p;done)|skip
    .rename_i b o len U R l hb a8 aw;obtain⟨Z,a5,p⟩:=aB.1 (show aq (H.dz b o len) _=some v from p);obtain⟨st,am,p⟩:=aB.1 p;cases p;obtain⟨b1,e1,e2,a3⟩:=zA O hb a5;have ad:=Md e2 am;subst ad;have ae:af st=len:=by simpa using e1
     subst ae;refine⟨_,S ?_ rfl,.str st⟩;exact run_convert_bytes_back w s d e ⟨l.c,l.base+o,none⟩ R st (hT.bI Q) (hT.bI G) (hT.bI B) (λj hj=>by grind [nV])
    .cases p;refine⟨_,S ?_ rfl,.str []⟩;simp[convert,run_underlying (hT.bI Q),run_underlying (hT.bI B),run_underlying (hT.bI G),Conv.bytesToString];rfl
    .cases p;rename_i a R;refine⟨_,S (y:=.string ⟨⟨[]⟩⟩) ?_ rfl,.str []⟩;simp[convert,run_underlying (hT.bI Q),run_underlying (hT.bI B),run_underlying (hT.bI G),Conv.bytesToString,loadCells,loadCellsFrom];rfl
    .rename_i a R aw;cases p;refine⟨_,S (y:=.string ⟨⟨[]⟩⟩) ?_ rfl,.str []⟩;cases a with
     |none=>rw[aw rfl];simp[convert,run_underlying (hT.bI Q),run_underlying (hT.bI B),run_underlying (hT.bI G),Conv.bytesToString];rfl
     |some a=>simp[convert,run_underlying (hT.bI Q),run_underlying (hT.bI B),run_underlying (hT.bI G),Conv.bytesToString,loadCells,loadCellsFrom];rfl
    .rename_i n Y o R Z vs y hi k I a8;obtain⟨q,bc,p⟩:=aB.1 (show aq (cW Z n) _=some v from p);obtain⟨st,am,p⟩:=aB.1 p;cases p;have bb:cW (eH Z 0) n=some q:=by rw[l8];exact bc
     obtain⟨b1,e1,e2,a3⟩:=JV O hi k I bb;have ad:=Md e2 am;subst ad;have ae:af st=n:=by simpa using e1
     subst ae;refine⟨_,S ?_ rfl,.str st⟩;exact run_convert_bytes_back w s d e ⟨Y,o,none⟩ R st (hT.bI Q) (hT.bI G) (hT.bI B) (λj hj=>by grind [nV])
   .cases M
 case call Y=>
  obtain⟨callee,a0,ts⟩:=Y;have J:=ew k aI;clear k;cases callee with
  |value x=>cases x<;>simp only[]at J<;>exact dead J
  |invoke x m=>cases J
  |builtin bi=>
   obtain⟨fs,al,J⟩:=aB.1 J;have E:=ew (Option.some.inj J) aI;clear J;obtain⟨a1,ht,E⟩:=aB.1 E;obtain⟨d,B,E⟩:=aB.1 E;cases bi<;>simp only[reduceCtorEq]at E
   case len=>
    cases d<;>simp only[reduceCtorEq,Option.some.injEq,cl.rd.injEq]at E;obtain⟨rfl,rfl⟩:=E;have a':kJ C F A a0.toList:=λy hy=>L y (by simp[Call.operands];simpa using hy)
    have I:=qq al a';generalize vals fs F=l at I h
    obtain⟨W⟩:=a0;cases W with
    |nil=>cases I;cases h
    |cons x W=>
     cases W with
     |nil=>
      cases I with
      |cons r D=>cases D;exact ap0 hT O B (lk ht) r h
     |cons y W=>
      cases I with
      |cons r D=>cases D with
       |cons D h3=>exact absurd h (by unfold wA;split<;>simp_all)
   all_goals exact dead E
 case lookup a1 x i cb=>obtain⟨fs,al,k⟩:=aB.1 (ew k aI);obtain⟨d,B,k⟩:=aB.1 k;cases d<;>simp only[reduceCtorEq]at k;obtain⟨f,K,k⟩:=aB.1 k;obtain⟨ca,hi,k⟩:=aB.1 k;obtain⟨z,hz,k⟩:=aB.1 k;obtain⟨cf,bo,k⟩:=aB.1 k;cases k;obtain⟨a,b,I,r,D⟩:=z8 L al;rw[I]at h;exact aqp hT O B K hi hz bo r D h
 case entry x=>obtain⟨f,K,k⟩:=aB.1 (ew k aI);cases k;exact ajv O (qp L K) h
 case makeFunc f _ _=>cases f<;>simp only[reduceCtorEq]at k;exact dead k
 all_goals exact dead k
end
section
variable {P:Program}{C:aL}{H:ah}{w:World}
theorem SI{v:V}{a:Value}(h:aP C v a)(b:v.one=true):a.oneCell'=true:=by cases h<;>first|rfl|assumption|cases b
theorem Le(h:bu C c F)(a:dI c=true):∀v∈F,v.oneCell'=true:=by
 induction c generalizing F with
 |nil=>cases h;simp
 |cons v c f=>
  cases h with
  |cons d e=>
   have b:and v.one (dI c)=true:=a;rw[de]at b
   grind [SI]
theorem au3(h:H.fe a d c=some b):
 ∃e g,H.get a=.cells e g/\dI c=true/\d+af c<=af e/\b.ag=H.ag/\
  (g=0\/∃br,H.get g=.bV a br)/\
  ∀x,b.get x=if a=x then .cells (e.take d++c++e.drop (d+af c)) g else if g=x/\g≠0 then .bV a a else H.get x:=by
 unfold ah.fe at h;cases m:H.get a with
 |cells e g=>
  rw[m]at h;obtain⟨k,h⟩:=dA.1 h;obtain⟨p,i,h⟩:=aB.1 h;rw[mH]at i;split at i
  .rename_i n;cases i;cases g with
   |zero=>
    cases h;refine⟨e,0,rfl,k,n,rfl,.inl rfl,λx=>?_⟩
    grind [ah.aT]
   |succ g=>
    have f:dU.casesOn (motive:=λ_=>Option ah) (H.get (g+1)) aN (λ_ _=>aN)
     (λo _=>aX (bt o a) (some ((H.set a (.cells (e.take d++c++e.drop (d+af c)) (g+1))).set (g+1) (.bV a a)))) (λ_=>aN)=some b:=h
    cases j:H.get (g+1)with
    |bV o br=>
     rw[j]at f;obtain⟨l,f⟩:=dA.1 f;rw[beq_eq]at l;subst l;cases f;refine⟨e,g+1,rfl,k,n,rfl,.inr ⟨br,j⟩,λx=>?_⟩
     grind [ah.aT]
    |_=>rw[j]at f;cases f
  .cases i
 |_=>rw[m]at h;cases h
theorem auH(b a:List f)(o i:Nat)(h:o+af a<=af b):
 (b.take o++a++b.drop (o+af a))[i]? =if o<=i/\i<o+af a then a[i-o]? else b[i]? :=by
 by_cases c:i<o
 .grind
 grind
def B2(b:Nat):∀(a:List Value) (o:Nat) (w:World),(w.setCells b o a).heap.size=w.heap.size
 |[],_,_=>rfl
 |v::r,o,w=>by show((w.setCell ⟨b,o,none⟩ v).setCells b (o+1) r).heap.size=_;rw[B2 b r];simp[World.setCell]
theorem v9(b c:Nat)(h:b≠c):∀(a:List Value) (o:Nat) (w:World),(w.setCells b o a).heap[c]? =w.heap[c]?
 |[],_,_=>rfl
 |v::r,o,w=>by show((w.setCell ⟨b,o,none⟩ v).setCells b (o+1) r).heap[c]? =_;rw[v9 b c h r];simp[World.setCell,Array.getElem?_modify,h]
theorem atU(w:World)(b o:Nat)(v:Value):iQ w (w.setCell ⟨b,o,none⟩ v):=⟨rfl,rfl,rfl,λ{c i} h=>by
 obtain⟨⟨u,d⟩,k⟩:=h;refine⟨?_,by simp_all⟩;by_cases e:(⟨b,o,none⟩:Addr)=⟨c,i,none⟩
 .grind [World.cell?_setCell_same]
 .exact⟨u,by
   have:=World.cell?_setCells_out b [v] o w ⟨c,i,none⟩ (λf g=>by grind)
   exact this.trans d⟩,λc a t j h=>by
 by_cases e:b=c
 .subst e;exact⟨a.setIfInBounds o v,by simp[World.setCell,Array.getElem?_modify,h],aI⟩
 .exact⟨a,by simpa [World.setCell,Array.getElem?_modify,e]using h,rfl⟩⟩
def J3(b:Nat):∀(a:List Value) (o:Nat) (w:World),iQ w (w.setCells b o a)
 |[],_,w=>iQ.refl w
 |v::r,o,w=>iQ.trans (b:=w.setCell ⟨b,o,none⟩ v) (atU w b o v) (J3 b r (o+1) (w.setCell ⟨b,o,none⟩ v))
variable{m:Nat}
theorem E6(p:Rel C H w)(A:C d=some T)(U:bu C c F)(h:H.fe d m c=some b):
 (storeCells ⟨T.c,T.base+m,none⟩ F).run P w=.ok () (w.setCells T.c (T.base+m) F)/\Ext C H w C b (w.setCells T.c (T.base+m) F):=by
 obtain⟨cs,g,D,h1,h2,Q,r,y⟩:=au3 h;have bs:=U.length;have bv:=p.len A D;have ab:∀j,j<F.length->(w.cell? ⟨T.c,T.base+m+j,none⟩).isSome=true:=λj X=>by
  obtain⟨⟨u,hu⟩,_⟩:=p.room A (i:=m+j) aa
  grind
 have a4:∀j,j<F.length->w.frozen? ⟨T.c,T.base+m+j,none⟩=false:=λj X=>by
  obtain⟨_,hu⟩:=p.room A (i:=m+j) aa
  grind
 have Z:=run_storeCells_cells (P:=P) T.c (T.base+m) F 0 w (by simpa using ab) (by simpa using a4) (Le U h1);rw[dG]at Z;have bj:=World.cell?_setCells_in T.c F (T.base+m) w ab;have a3:∀ {k:Nat}{q:Loc}{E:au}{t:Nat},C k=some q->b.get k=.cells E t->b.gr k t=true->k≠d->q.c≠T.c/\H.get k=.cells E t/\H.gr k t=true:=by
  intro k q E t l f o s;rw[y,ao (λe=>s e.symm)]at f;have I:H.get k=.cells E t:=by
   split at f
   .cases f
   .exact f
  have key:g≠0->t≠g:=by
   intro R S;subst S;rcases r with r|⟨br,r⟩
   .exact R r
   .have bo:=p.mem I R r;rcases gJ.1 o with e|⟨L,N,z,K⟩
    .exact R e
    grind
  refine⟨λB=>?_,I,?_⟩
  .obtain⟨G,a2,O,S,a0,a1⟩:=(p.inj l A B s).resolve_right (λn=>by rw[D]at n;cases n.2)
   grind
  .rcases gJ.1 o with e|⟨L,N,z,K⟩
   .exact gJ.2 (.inl e)
   .rw[y]at z;split at z
    .cases z
    .split at z
     .omega
     .exact gJ.2 (.inr ⟨L,N,z,K⟩)
 have a6:∀ {k:Nat}{q:Loc}{M:p8},C k=some q->b.get k=.bW M->q.base=0/\wK C (w.setCells T.c (T.base+m) F) q.c M:=by
  intro k q M l f;have o:d≠k:=by intro e;rw[y,ay e]at f;cases f
  have s:H.get k=.bW M:=by
   rw[y,ao o]at f;split at f
   .cases f
   .exact f
  obtain⟨f1,f2⟩:=p.bW l s;refine⟨f1,f2.mono (aL.le_refl C) (v9 _ _ ?_ _ _ _)⟩;intro B;obtain⟨_,_,_,_,G,_⟩:=(p.inj l A B.symm (λe=>o e.symm)).resolve_right (λn=>by rw[D]at n;cases n.2);rw[s]at G;cases G
 have Y:∀ {k:Nat}{q:Loc},C k=some q->H.get k=.none->b.get k=.none/\(w.setCells T.c (T.base+m) F).heap[q.c]? =w.heap[q.c]? :=by
  intro k q l f;have o:d≠k:=by intro e;rw[<-e,D]at f;cases f
  refine⟨?_,v9 _ _ ?_ _ _ _⟩
  .grind
  .intro B;obtain⟨_,_,_,_,G,_⟩:=(p.inj l A B.symm (λe=>o e.symm)).resolve_right (λn=>by rw[D]at n;cases n.2)
   grind
 refine⟨Z,⟨⟨?_,?_,?_,?_,?_,?_,?_,?_,a6,λe=>(p.gf e).keep (v9 _ _ (λB=>(p.gf e).xO A (by rw[D];simp) B) _ _ _) (λk q l f=>(Y l ((p.gf e).off k q l f)).1),λ{x bb be} e=>by
  rw[Q];rw[y]at e;split at e
  .cases e;exact p.n9 D
  .split at e
   .cases e
   .exact p.n9 e⟩,aL.le_refl C,λl f=>absurd (l.symm.trans f) aI,?_,Nat.le_of_eq Q.symm,?_,by rw[B2];exact aJ _,J3 _ _ _ _,Y,λ_ _ e=>.inl e⟩⟩
 .intro k q E t i v l f o s;by_cases W:k=d
  .subst W;rw[A]at l;cases l;rw[y,ay rfl]at f;cases f;rw[auH _ _ _ _ h2]at s;split at s
   .rename_i hi;obtain⟨v',I,z⟩:=U.get _ _ s
    grind
   .rename_i hi;have a5:H.gr k g=true:=by
     rcases r with r|⟨br,r⟩
     .exact gJ.2 (.inl r)
     .exact gJ.2 (.inr ⟨_,br,r,p.n7 r⟩)
    obtain⟨v',I,z⟩:=p.cell A D a5 s
    grind [World.cell?_setCells_out]
  .obtain⟨I,z,K⟩:=a3 l f o W;obtain⟨v',bc,bd⟩:=p.cell l z K s
   grind [World.cell?_setCells_out]
 .intro k q i l f;obtain⟨⟨u,hu⟩,hf⟩:=p.room l f;refine⟨?_,by grind [World.frozen?_setCells]⟩;by_cases B:q.c=T.c/\T.base+m<=q.base+i/\q.base+i<T.base+m+F.length
  .have X:q.base+i-(T.base+m)<F.length:=aa
   grind
  grind [World.cell?_setCells_out]
 .intro k q E t l f;rw[y]at f;split at f
  .grind
  .split at f
   .cases f
   .exact p.len l f
 .intro k b2 q l2 l f o s;rcases p.inj l f o s with⟨G,a2,O,S,a0,a1⟩|⟨n1,n2⟩
  rotate_left
  .grind
  have a8:∀ {x:Nat}{a:au},H.get x=.cells a O->∃a',b.get x=.cells a' O:=by
   intro x a hx;rw[y];split
   .grind
   .split
    .grind
    .exact⟨a,hx⟩
  grind
 .intro k l;rw[Q]at l;obtain⟨f,o⟩:=p.top l
  grind
 .intro k q l;rw[B2];exact p.loc l
 .intro k E t L br l f o;have J:∃V,H.get k=.cells V t:=by
   rw[y]at l;split at l
   .grind
   .grind
  obtain⟨V,J⟩:=J;rw[y]at o;split at o
  .cases o
  .split at o
   .rename_i hh;cases o;rcases r with r|⟨N,r⟩
    .exact absurd r hh.2
    .rw[hh.1]at r;exact p.mem J f r
   .exact p.mem J f o
 .intro t L br o;rw[y]at o;split at o
  .cases o
  .split at o
   .grind
   .exact p.n7 o
 .grind
 grind [v9]
end
def aL.add(C:aL)(b:Nat)(l:Loc):aL:=⟨λx=>if x=b then some l else C x,C.im⟩
theorem aL.add_get:o.add a T d=if d=a then some T else o d:=rfl
theorem aL.uK(C:aL)(b:Nat)(l:Loc):C.add b l b=some l:=by rw[aL.add_get,ay rfl]
theorem aL.wz{l:Loc}(h:o a=none):o.le (o.add a l):=by
 refine⟨?_,λ_ _ h=>h⟩
 grind [aL.add_get]
section
variable {P:Program}{C:aL}{H:ah}{w w':World}
theorem Tp(j:Rel C H w):Rel C (H.push (.cells c 0)) w:=by
 have k:∀ {b l},C b=some l->H.ag≠b:=λ{b l} h e=>by
  have:=(j.top (b:=b) aa).1
  grind
 have p:∀ {x a b},(H.push (.cells c 0)).get x=.bV a b->H.get x=.bV a b:=by
  intro x a b h;rw[ah.bl]at h;split at h
  .cases h
  .exact h
 have hl:∀ {b g},b≠H.ag->(H.push (.cells c 0)).gr b g=true->H.gr b g=true:=by
  intro b g r h;rcases gJ.1 h with e|⟨a,s,e,t⟩
  .exact gJ.2 (.inl e)
  .exact gJ.2 (.inr ⟨a,s,p e,t⟩)
 refine⟨?_,j.room,?_,?_,?_,j.loc,?_,λe=>j.n7 (p e),λ{b l o} d f=>j.bW d (by simp_all [ah.bl,ao]),λe=>(j.gf e).keep rfl (λb l d f=>by rw[ah.bl,ao (k d)];exact(j.gf e).off b l d f),λ{x z u} e=>by
  show u<H.ag+1;rw[ah.bl]at e;split at e
  .cases e;omega
  .have:=j.n9 e;omega⟩
 .intro b l q g i v d f m n;rw[ah.bl,ao (k d)]at f;exact j.cell d f (hl (λe=>k d e.symm) m) n
 .intro b l q g d f;rw[ah.bl,ao (k d)]at f;exact j.len d f
 .intro b y l E d f m n;rw[ah.bl,ao (k d),ah.bl,ao (k f)];exact j.inj d f m n
 .intro b r;have D:H.ag+1<=b:=r;obtain⟨A,B⟩:=j.top (b:=b) aa;simp_all [ah.bl,ao];omega
 .intro b q g F br d f m;rw[ah.bl]at d;split at d
  .grind
  .exact j.mem d f (p m)
theorem To(j:Rel C H w)(F:H.get a=.cells c 0)(N:C a=none)(G:a<H.ag)(h:vQ C (.cells c 0) d w w'):
 Rel (C.add a ⟨w.heap.size,0,d⟩) H w':=by
 obtain⟨P,K,Q,J,O⟩:=h.obj;cases K;have A:=aL.wz (l:=⟨w.heap.size,0,d⟩) N;have m:∀ {x:Nat}{l:Loc},C.add a ⟨w.heap.size,0,d⟩ x=some l->(x=a/\l=⟨w.heap.size,0,d⟩)\/(x≠a/\C x=some l):=by
  intro x l t;rw[aL.add_get]at t;split at t
  .grind
  .grind
 have n:∀ {k i:Nat},k<w.heap.size->w'.cell? ⟨k,i,none⟩=w.cell? ⟨k,i,none⟩:=by intro k i n;unfold World.cell?;rw[h.old k n]
 have L:∀ {k i:Nat},k<w.heap.size->w'.frozen? ⟨k,i,none⟩=w.frozen? ⟨k,i,none⟩:=by intro k i n;unfold World.frozen?;rw[h.old k n]
 have M:∀ {k:Nat}{x:Obj},C.im k=some x->rP (C.add a ⟨w.heap.size,0,d⟩) H w' k x:=by
  intro k x e;have hi:=j.gf e;have G:=hi.lt;refine hi.keep (h.old k G) ?_;intro y l b f;rcases m b with⟨_,rfl⟩|⟨_,b⟩
  .grind
  .exact hi.off _ _ b f
 refine⟨?_,?_,?_,?_,?_,?_,j.mem,j.n7,?_,M,j.n9⟩
 rotate_right
 .intro x l o b f;rcases m b with⟨rfl,rfl⟩|⟨_,b⟩
  .rw[F]at f;cases f
  .obtain⟨s,r⟩:=j.bW b f;exact⟨s,r.mono A (h.old _ (j.loc b))⟩
 .intro x l I g i v b f p q;rcases m b with⟨rfl,rfl⟩|⟨_,b⟩
  .rw[F]at f;cases f;obtain⟨B,u,z⟩:=J i v q;exact⟨B,by simpa using u,z.mono A⟩
  .obtain⟨B,u,z⟩:=j.cell b f p q;exact⟨B,by rw[n (j.loc b)];exact u,z.mono A⟩
 .intro x l i b f;rcases m b with⟨rfl,rfl⟩|⟨_,b⟩
  .simpa using O i f
  .obtain⟨D,E⟩:=j.room b f;rw[n (j.loc b),L (j.loc b)];exact⟨D,E⟩
 .intro x l I g b f;rcases m b with⟨rfl,rfl⟩|⟨_,b⟩
  .grind
  .exact j.len b f
 .intro x y l R b f p q;rcases m b with⟨rfl,rfl⟩|⟨_,s⟩
  .rcases m f with⟨rfl,rfl⟩|⟨_,r⟩
   .exact absurd rfl q
   .have:=j.loc r;simp at p;omega
  .have hl:=j.loc s;rcases m f with⟨rfl,rfl⟩|⟨_,r⟩
   .simp at p;omega
   .exact j.inj s r p q
 .intro x t;obtain⟨D,E⟩:=j.top t;simp_all [aL.add_get,ao];omega
 .intro x l b;rw[h.size];rcases m b with⟨rfl,rfl⟩|⟨_,b⟩
  .simp
  .have:=j.loc b;omega
theorem ajU(d:Rel C H w)(h:vQ C (.cells c 0) a w w'):
 Ext C H w (C.add H.ag ⟨w.heap.size,0,a⟩) (H.push (.cells c 0)) w':=by
 have f:C H.ag=none:=(d.top (aJ _)).1;refine⟨To (Tp d) (by rw[ah.bl,ay rfl]) f (by show H.ag<H.ag+1;omega) h,aL.wz f,?_,?_,by show H.ag<=H.ag+1;omega,?_,by rw[h.size];omega,h.same,λ{b l} i j=>⟨by rw[ah.bl,ao (λe=>by grind)];exact j,h.old _ (d.loc i)⟩,λ_ _ e=>.inl e⟩
 .simp_all [aL.add_get,aJ]
 .simp_all [ah.bl,ao];omega
 .intro g k _;exact h.old g k
end
section
variable {P:Program}{C:aL}{H:ah}{w:World}
def Fits(P:Program)(w:World)(b n:Nat)(x:Value)(a:List Value):Prop:=(Builtin.lenOf x).run P w=.ok n w/\∀k,(Builtin.firstCells b n x).run P { w with drawn:=w.drawn+k }=.ok ⟨a⟩ { w with drawn:=w.drawn+k }
variable{S:TypeInfo}{y:Array TypeId}{m:Nat}{D:Nat}
def vV{st:TypeId}(s:P.underlying st=some (.slice e))(hi:P.info? e=some S){c u:TypeId}(t:P.underlying c=some E)(v:∀k,E≠ .int k)
 (h:y[0]? =some st) (i:y[1]? =some c) {a:Addr}{x:Value} (j:Fits P w S.size D x F) (o:d+D<=m)
 (p:(storeCells (a.add (d*S.size)) F).run P w=.ok () r):
 (Builtin.append_ y u #[.slice (some a) d m,x]).run P w=.ok (.slice (some a) (d+D) m) r:=by
 obtain⟨l,n⟩:=j;have b:=n 0;simp only[dG]at b;unfold Builtin.append_;have f:(#[Value.slice (some a) d m,x]:Array Value)[0]? =some (.slice (some a) d m):=rfl;have g:(#[Value.slice (some a) d m,x]:Array Value)[1]? =some x:=rfl;have q:(sizeOf e).run P w=.ok S.size w:=by simp[sizeOf,sG hi]
 simp only[h,i,f,g,eE,run_underlying s,eO,q,run_underlying t,gl,jk,if_false,l,ay o,lS,if_true,b,p]
theorem F9{st:TypeId}(D:P.underlying st=some (.slice e))(hi:P.info? e=some S){z:Value}(H:S.zero=some z)(I:z.cells.size=S.size){g ty:TypeId}(G:P.underlying g=some E)(O:∀k,E≠ .int k)
 (j:y[0]? =some st) (b:y[1]? =some g) {a:Option Addr}{len cap:Nat}{x:Value}{old:List Value} (p:Fits P w S.size d x F) (t:cap<len+d)
 (A:∀k,(Builtin.firstCells S.size len (.slice a len cap)).run P { w with drawn:=w.drawn+k }=.ok ⟨old⟩ { w with drawn:=w.drawn+k })
 (M:len+d<=1099511627776) (N:(len+d)*S.bytes<=1099511627776):
 ∃c,len+d<=c/\∃f:List Value,af f=(c-(len+d))*S.size/\
  (Builtin.append_ y ty #[.slice a len cap,x]).run P w=.ok (.slice (some ⟨w.heap.size,0,none⟩) (len+d) c) (w.drew.alloc (.cells ⟨old++F++f⟩ e)):=by
 obtain⟨q,r⟩:=p;have s:=r 1;have B:=A 1;have C:∀w,(sizeOf e).run P w=.ok S.size w:=by intro w;simp[sizeOf,sG hi]
 have h:(#[Value.slice a len cap,x]:Array Value)[0]? =some (.slice a len cap):=rfl;have i:(#[Value.slice a len cap,x]:Array Value)[1]? =some x:=rfl;have v:¬(len+d<=cap):=aa;have u:¬(((len+d:Nat):Int)>IntKind.i64.max):=by have:IntKind.i64.max=9223372036854775807:=ai;rw[this];omega
 have n:¬(Builtin.nextslicecap (len+d) cap*S.bytes>2^48):=by have b:=nextslicecap_le t;have J:Builtin.nextslicecap (len+d) cap*S.bytes<=(2*(len+d)+200)*S.bytes:=ei _ b;have K:(2*(len+d)+200)*S.bytes=2*((len+d)*S.bytes)+200*S.bytes:=b4;have L:S.bytes<=(len+d)*S.bytes:=yI _ aa;omega
 let c:=Question.cut (.appendCap (len+d) cap e) (w.tape w.drawn (.appendCap (len+d) cap e));have m:len+d<=c:=qP _ _;have o:(choose (.appendCap (len+d) cap e)).run P w=.ok c { w with drawn:=w.drawn+1 }:=by simp[Question.forced,c]
 refine⟨c,m,(Builtin.zeroCells z.cells (c-(len+d))).toList,by simp[Builtin.zeroCells,I],?_⟩;unfold Builtin.append_;simp only[j,b,h,i,eE,run_underlying D,eO,C,run_underlying G,gl,jk,if_false,q,ao v,lS,if_true];simp only[u,false_and,if_false,eE,gl,eO,sG hi,ao n,o,run_askRoom,B,s,vm hi H,newRow,run_newObj];have l:(({ toList:=old }++ { toList:=F }++Builtin.zeroCells z.cells (c-(len+d)):Array Value))= { toList:=old++F++(Builtin.zeroCells z.cells (c-(len+d))).toList }:=by apply um;simp
 rw[l];rfl
end
section
variable {P:Program}{C:aL}{H H':ah}{w w':World}
structure yz (H H':ah) (g:Nat) (cs:List V):Prop where
 get:∀x,H'.get x=if x=H.ag then .cells cs g else if x=g then .bV H.ag H.ag else H.get x
 lo:H.ag<H'.ag
 hi:g<H'.ag
 g0:g≠0
 xS:g≠H.ag
 old:H.ag<=g\/∃leaf br,H.get g=.bV leaf br
theorem Qe(r:Rel C H w)(g:yz H H' d c)
 (bc:∀ {x:Nat}{f:Loc}{l:au}{m i:Nat},C x=some f->H.get x=.cells l m->m≠d->w'.cell? ⟨f.c,f.base+i,none⟩=w.cell? ⟨f.c,f.base+i,none⟩)
 (bj:∀ {x:Nat}{f:Loc}{i:Nat},C x=some f->i<f.lK->(∃t,w'.cell? ⟨f.c,f.base+i,none⟩=some t)/\w'.frozen? ⟨f.c,f.base+i,none⟩=false)
 (a0:∀ {i:Nat}{v:V},c[i]? =some v->∃t,w'.cell? ⟨T.c,T.base+i,none⟩=some t/\aP C v t)
 (bi:∀ {i:Nat},i<T.lK->(∃t,w'.cell? ⟨T.c,T.base+i,none⟩=some t)/\w'.frozen? ⟨T.c,T.base+i,none⟩=false)
 (ap:af c<=T.lK) (N:∀ {x:Nat}{f:Loc},C x=some f->f.c=T.c->∃l,H.get x=.cells l d)
 (ar:T.c<w'.heap.size) (W:w.heap.size<=w'.heap.size) (am:∀ {s:Nat},s<w.heap.size->(∀b T,C b=some T->T.c≠s)->w'.heap[s]? =w.heap[s]?) (hs:iQ w w')
 (ad:w.heap.size<=T.c\/∃O J,C O=some J/\J.c=T.c)
 (a1:∀ {x:Nat}{f:Loc}{o:p8},C x=some f->H.get x=.bW o->w'.heap[f.c]? =w.heap[f.c]?)
 (U:∀ {x:Nat}{f:Loc},C x=some f->H.get x=.none->w'.heap[f.c]? =w.heap[f.c]?):Ext C H w (C.add H.ag T) H' w':=by
 have hn:C H.ag=none:=(r.top (aJ _)).1;have I:=aL.wz (l:=T) hn;have ac:∀ {x:Nat}{f:Loc},C x=some f->x<H.ag:=by
  intro x f h;rcases rY x H.ag with h1|h1
  .exact h1
  .rw[(r.top h1).1]at h;cases h
 have bb:∀ {x:Nat},H.get x≠ .none->x<H.ag:=by
  intro x h;rcases rY x H.ag with h1|h1
  .exact h1
  .exact absurd (r.top h1).2 h
 have u:∀ {x:Nat}{f:Loc},C.add H.ag T x=some f->(x=H.ag/\f=T)\/(x≠H.ag/\C x=some f):=by
  intro x T z;rw[aL.add_get]at z;split at z
  .grind
  .grind
 have L:∀ {x:Nat}{l:au}{m:Nat},x≠H.ag->H'.get x=.cells l m->H.get x=.cells l m:=by
  intro x l m h1 p;rw[g.get,ao h1]at p;split at p
  .cases p
  .exact p
 have M:∀ {x a b:Nat},x≠d->H'.get x=.bV a b->H.get x=.bV a b:=by
  intro x a b h1 p;rw[g.get]at p;by_cases D:x=H.ag
  .grind
  .grind
 have R:∀ {x:Nat}{l:au}{m:Nat},H.get x=.cells l m->H'.get x=.cells l m:=by
  intro x l m h1;rw[g.get,ao b4,ao ?_]
  .exact h1
  .intro e;subst e;rcases g.old with h|⟨a,b,h⟩
   .grind
   grind
 have a2:∀ {x:Nat}{f:Loc}{o:p8},C.add H.ag T x=some f->H'.get x=.bW o->f.base=0/\wK (C.add H.ag T) w' f.c o:=by
  intro x f o k j;rcases u k with⟨h1,_⟩|⟨h1,q⟩
  .rw[g.get,ay h1]at j;cases j
  .have n:H.get x=.bW o:=by
    rw[g.get,ao h1]at j;split at j
    .cases j
    .exact j
   obtain⟨F,Y⟩:=r.bW q n;exact⟨F,Y.mono I (a1 q n)⟩
 have S:∀ {x:Nat}{f:Loc},C x=some f->H.get x=.none->H'.get x=.none/\w'.heap[f.c]? =w.heap[f.c]? :=by
  intro x f k j;refine⟨?_,U k j⟩;have z:=ac k;rw[g.get,ao aa];split
  .rename_i e;subst e;rcases g.old with h|⟨a,b,h⟩
   .omega
   grind
  .exact j
 have al:∀ {s:Nat}{x:Obj},C.im s=some x->rP (C.add H.ag T) H' w' s x:=by
  intro s x e;have hi:=r.gf e;have bd:=hi.lt;have a4:w'.heap[s]? =w.heap[s]? :=by
   by_cases hc:∃b T,C b=some T/\T.c=s
   .obtain⟨b,J,k,j⟩:=hc;rw[<-j];exact U k (hi.off _ _ k j)
   .grind
  refine hi.keep a4 ?_;intro y f k j;rcases u k with⟨_,rfl⟩|⟨_,q⟩
  .rcases ad with h1|⟨O,J,h1,p⟩
   .omega
   .obtain⟨l,D⟩:=N h1 p;rw[hi.off _ _ h1 (p.trans j)]at D;cases D
  .exact(S q (hi.off _ _ q j)).1
 refine⟨⟨?_,?_,?_,?_,?_,?_,?_,?_,a2,al,λ{x a7 a9} e=>by
  rw[g.get]at e;split at e
  .cases e;exact g.hi
  .split at e
   .cases e
   .exact rZ (r.n9 e) g.lo⟩,I,?_,?_,ja g.lo,am,W,hs,S,λ_ _ e=>.inl e⟩
 .intro x f l m i v k j n G;rcases u k with⟨rfl,rfl⟩|⟨h1,q⟩
  .rw[g.get,ay rfl]at j;cases j;obtain⟨t,A,B⟩:=a0 G;exact⟨t,A,B.mono I⟩
  .have X:=L h1 j;have ae:m≠d:=by
    intro e;subst e;rcases gJ.1 n with e|⟨a,b,A,B⟩
    .exact g.g0 e
    .rw[g.get,ao g.xS,ay rfl]at A
     grind
   have hl:H.gr x m=true:=by
    rcases gJ.1 n with e|⟨a,b,A,B⟩
    .exact gJ.2 (.inl e)
    .exact gJ.2 (.inr ⟨a,b,M ae A,B⟩)
   obtain⟨t,A,B⟩:=r.cell q X hl G;exact⟨t,by grind,B.mono I⟩
 .grind
 .intro x f l m k j;rcases u k with⟨rfl,rfl⟩|⟨h1,q⟩
  .rw[g.get,ay rfl]at j;cases j;exact ap
  .exact r.len q (L h1 j)
 .intro x y f l2 k j n G;rcases u k with⟨h1,Z⟩|⟨h1,q⟩
  .rcases u j with⟨p,P⟩|⟨p,F⟩
   .omega
   .rw[Z]at n;obtain⟨l,K⟩:=N F n.symm;exact .inl ⟨c,l,d,g.g0,by rw[g.get,ay h1],R K⟩
  .rcases u j with⟨p,P⟩|⟨p,F⟩
   .rw[P]at n;obtain⟨l,K⟩:=N q n;exact .inl ⟨l,c,d,g.g0,R K,by rw[g.get,ay p]⟩
   .rcases r.inj q F n G with⟨a,a',gg,D,Q,h5⟩|⟨n1,n2⟩
    .grind
    grind
 .intro x z;have h1:=g.lo;have p:=g.hi;obtain⟨D,Q⟩:=r.top (b:=x) aa;refine⟨?_,?_⟩
  .rw[aL.add_get,ao aa];exact D
  .rw[g.get,ao aa,ao aa];exact Q
 .intro x f k;rcases u k with⟨rfl,rfl⟩|⟨_,q⟩
  .exact ar
  .exact fy (r.loc q) W
 .intro x l m a5 br k j n;by_cases E:m=d
  .subst E;rw[g.get,ao g.xS,ay rfl]at n
   grind
  .have z:x≠H.ag:=by intro e;rw[g.get,ay e]at k;cases k;exact E rfl
   exact r.mem (L z k) j (M E n)
 .intro m a5 br n;by_cases E:m=d
  .subst E;rw[g.get,ao g.xS,ay rfl]at n
   grind
  .exact r.n7 (M E n)
 .grind
 .intro x z _ be;rw[g.get,ao aa];split
  .rename_i e;subst e;rcases g.old with h|⟨a,b,h⟩
   .omega
   grind
  .rfl
theorem Iw{r:V×ah}(h:lG H a d c=some r):r.1=.slice H.ag 0 d (.grown a)/\yz H r.2 (H.ag+1) c:=by
 cases h;refine⟨rfl,⟨λx=>?_,by show H.ag<H.ag+1+1;omega,by show H.ag+1<H.ag+1+1;omega,aa,aa,.inl aa⟩⟩;show((H.push (.cells c (H.ag+1))).push (.bV H.ag H.ag)).get x=_;rw[ah.bl,ah.bl];have e:(H.push (.cells c (H.ag+1))).ag=H.ag+1:=rfl
 grind
variable{m:Nat}
theorem alD(o:Rel C H w){r:V×ah}(h:oJ H a d m c=some r):
 r.1=.slice H.ag 0 m (.grown a)/\∃f g,H.get d=.cells f g/\yz H r.2 g c:=by
 unfold oJ at h;cases k:H.get d with
 |cells f g=>
  rw[k]at h
  have i:dU.casesOn (motive:=λ_=>Option (V×ah)) (H.get g) aN (λ_ _=>aN)
   (λl _=>aX (and (bt l d) (!(fN g))) (some (.slice H.ag 0 m (.grown a),(H.push (.cells c g)).set g (.bV H.ag H.ag))))
   (λ_=>aN)=some r:=h
  clear h;have h:=i;clear i;cases b:H.get g with
  |bV l br=>
   rw[b]at h;obtain⟨j,h⟩:=dA.1 h;cases h;rw[de]at j;have n:g≠0:=by intro e;subst e;simp[fN]at j
   have p:g<H.ag:=by
    rcases rY g H.ag with h2|h2
    .exact h2
    .rw[(o.top h2).2]at b;cases b
   refine⟨rfl,f,g,rfl,⟨λx=>?_,by show H.ag<H.ag+1;omega,by show g<H.ag+1;omega,n,aa,.inr ⟨_,_,b⟩⟩⟩;show(((H.push (.cells c g)).set g (.bV H.ag H.ag))).get x=_;rw[ah.aT,ah.bl]
   grind
  |_=>rw[b]at h;cases h
 |_=>rw[k]at h;cases h
end
section
variable {P:Program}{C:aL}{H H':ah}{w w':World}
def Rel.drew(h:Rel C H w)(k:Nat):Rel C H { w with drawn:=w.drawn+k }:=⟨h.cell,h.room,h.len,h.inj,h.top,h.loc,h.mem,h.n7,λa b=>let⟨c,d⟩:=h.bW a b;⟨c,d.mono (aL.le_refl C) rfl⟩,λe=>(h.gf e).keep rfl (h.gf e).off,h.n9⟩
variable{m:Nat}{l:V}
def DJ(v:Rel C H w){z:Value}(G:aP C l z)(h:eu H d m l=some c):
 ∃x,bu C c x/\∀k,(Builtin.firstCells d m z).run P { w with drawn:=w.drawn+k }=.ok ⟨x⟩ { w with drawn:=w.drawn+k }:=by
 cases G<;>first|(cases h;done)|skip
 .rename_i s;obtain⟨_,h⟩:=dA.1 (show aX (bt d 1) _=some c from h);obtain⟨t,g,h⟩:=aB.1 (show aq (cW s m) _=some c from h);cases h;rw[fB]at g;split at g
  .cases g;refine⟨_,Me _,λk=>?_⟩;simp only[Builtin.firstCells,gl];simp_all
  .cases g
 .rename_i b o N J i M B K L;obtain⟨r,j,n,p⟩:=zA v B (show H.dz b o (m*d)=some c from h);refine⟨r,n,λk=>?_⟩;exact BV j p
 .obtain⟨_,h⟩:=dA.1 (show aX (fN m) (some [])=some c from h);cases h;exact⟨[],.nil,λk=>rfl⟩
 .rename_i a i;obtain⟨e,h⟩:=dA.1 (show aX (fN m) (some [])=some c from h);cases h;have q:m=0:=(beq_eq _ _).1 e;subst q;refine⟨[],.nil,λk=>?_⟩;simp[Builtin.firstCells,loadCells,loadCellsFrom]
 .rename_i a i _;have f:cW [] (m*d)=some c:=h;rw[fB]at f;split at f
  .rename_i u;cases f;have e:m*d=0:=by simpa using u
   refine⟨[],by simpa using bu.nil,λk=>?_⟩;cases a<;>simp[Builtin.firstCells,loadCells,loadCellsFrom,e]
  .cases f
 .rename_i O I o i A Q y hi D F u;have E:cW (eH A 0) (m*d)=some c:=by rw[l8];exact h
  obtain⟨r,j,n,p⟩:=JV v hi D F E;refine⟨r,n,λk=>?_⟩;exact BV j p
 .rename_i a;obtain⟨e,h⟩:=dA.1 (show aX (fN m) (some [])=some c from h);cases h;have q:m=0:=(beq_eq _ _).1 e;subst q;refine⟨[],.nil,λk=>?_⟩;cases a<;>simp[Builtin.firstCells,loadCells,loadCellsFrom]
def Ed{b:Value}(c:aP C l b)(h:lI l=some a):(Builtin.lenOf b).run P w=.ok a w:=by
 cases c<;>first|(cases h;done)|skip
 .rename_i s;cases h;show Result.ok _ w=_;rw[iw];rfl
 all_goals(cases h;rfl)
def Il(h:jx a d=true):a<=1099511627776/\a*d<=1099511627776:=by unfold jx at h;simp_all
theorem H8(f:Rel C H w)(q:yz H H' a c){rest:List Value}(m:bu C c F){e:TypeId}:
 Ext C H w (C.add H.ag ⟨w.heap.size,0,F.length+rest.length⟩) H' (w.drew.alloc (.cells ⟨F++rest⟩ e)):=by
 have n:∀ {b i:Nat},b<w.heap.size->(w.drew.alloc (.cells ⟨F++rest⟩ e)).cell? ⟨b,i,none⟩=w.cell? ⟨b,i,none⟩:=by intro b i h;exact World.cell?_alloc_past (w:=w.drew) _ b i h
 have r:∀i,(w.drew.alloc (.cells ⟨F++rest⟩ e)).cell? ⟨w.heap.size,0+i,none⟩=(F++rest)[i]? :=by intro i;have:=World.cell?_alloc_at (w:=w.drew) (⟨F++rest⟩:Array Value) e w.heap.size (0+i) rfl;rw[this];simp
 have j:∀ {b:Nat},b<w.heap.size->(w.drew.alloc (.cells ⟨F++rest⟩ e)).heap[b]? =w.heap[b]? :=by intro b h;show(w.heap.push _)[b]? =_;simp[Array.getElem?_push,Nat.ne_of_lt h]
 have s:∀ {b i:Nat},b<w.heap.size->(w.drew.alloc (.cells ⟨F++rest⟩ e)).frozen? ⟨b,i,none⟩=w.frozen? ⟨b,i,none⟩:=by intro b i h;unfold World.frozen?;rw[j h]
 refine Qe f q ?_ ?_ ?_ ?_ ?_ ?_ ?_ ?_ ?_ ?_ (.inl (aJ _)) (λd _=>j (f.loc d)) (λd _=>j (f.loc d))
 .intro x o y z i d _ _;exact n (f.loc d)
 .intro x o i d g;obtain⟨k,l⟩:=f.room d g;rw[n (f.loc d),s (f.loc d)];exact⟨k,l⟩
 .intro i v u;obtain⟨A,k,l⟩:=m.get i v u
  grind
 .intro i hi;have hi':i<(F++rest).length:=by simpa using hi
  refine⟨⟨(F++rest)[i],by rw[r];simp⟩,?_⟩;show(match(w.heap.push (.cells ⟨F++rest⟩ e (0,0)))[w.heap.size]? with|some (.cells _ _ (lo,hi))=>decide (lo<=0+i)&&decide (0+i<hi)|_=>false)=false;simp
 .have:=m.length
  grind
 .intro x o d g;have:=f.loc d;simp at g;omega
 .simp_all
 .grind
 .grind
 .exact⟨rfl,rfl,rfl,λh=>(iQ.alloc w.drew _).free h,λb c t p h=>(iQ.alloc w.drew _).shape b c t p h⟩
variable{D:Nat}
theorem ajV(f:Rel C H w){q o:au}(L:yz H H' a (q++o))(k:C d=some T){G:au}(N:H.get d=.cells G a){e:List Value}
 (z:bu C q F) (ae:F.length=D) (ad:∀j v,F[j]? =some v->w.cell? ⟨T.c,T.base+m+j,none⟩=some v) (p:bu C o e) (J:dI o=true) (ab:m+D+o.length<=T.lK):
 (storeCells ⟨T.c,T.base+m+D,none⟩ e).run P w=.ok () (w.setCells T.c (T.base+m+D) e)/\
 Ext C H w (C.add H.ag ⟨T.c,T.base+m,T.lK-m⟩) H' (w.setCells T.c (T.base+m+D) e):=by
 have ac:=p.length;have B:∀j,j<e.length->(w.cell? ⟨T.c,T.base+m+D+j,none⟩).isSome=true:=λj y=>by
  obtain⟨⟨u,E⟩,_⟩:=f.room k (i:=m+D+j) aa
  grind
 have M:∀j,j<e.length->w.frozen? ⟨T.c,T.base+m+D+j,none⟩=false:=λj y=>by
  obtain⟨_,E⟩:=f.room k (i:=m+D+j) aa
  grind
 have A:=run_storeCells_cells (P:=P) T.c (T.base+m+D) e 0 w (by simpa using B) (by simpa using M) (Le p J);rw[dG]at A;have Z:=World.cell?_setCells_in T.c e (T.base+m+D) w B;have Q:∀ {x:Nat}{b:Loc}{i:Nat},C x=some b->i<b.lK->(∃r,(w.setCells T.c (T.base+m+D) e).cell? ⟨b.c,b.base+i,none⟩=some r)/\(w.setCells T.c (T.base+m+D) e).frozen? ⟨b.c,b.base+i,none⟩=false:=by
  intro x b i g h;obtain⟨⟨u,E⟩,Y⟩:=f.room g h;refine⟨?_,by grind [World.frozen?_setCells]⟩;by_cases t:b.c=T.c/\T.base+m+D<=b.base+i/\b.base+i<T.base+m+D+e.length
  .have y:b.base+i-(T.base+m+D)<e.length:=aa
   grind
  .grind [World.cell?_setCells_out]
 have O:∀ {x:Nat}{b:Loc},C x=some b->b.c=T.c->∃I,H.get x=.cells I a:=by
  intro x b g h;by_cases R:x=d
  .grind
  .obtain⟨S,U,V,s,W,X⟩:=(f.inj g k h R).resolve_right (λn=>by rw[N]at n;cases n.2)
   grind
 have al:=z.length;refine⟨A,Qe f L ?_ Q ?_ ?_ ?_ O ?_ ?_ ?_ (J3 _ _ _ _) (.inr ⟨d,T,k,rfl⟩) (λg h=>v9 _ _ (λt=>by grind) _ _ _) (λg h=>v9 _ _ (λt=>by grind) _ _ _)⟩
 .grind [World.cell?_setCells_out]
 .intro i v l;by_cases hi:i<q.length
  .rw[s4 hi]at l;obtain⟨r,K,s⟩:=z.get i v l
   grind [World.cell?_setCells_out]
  .rw[vI aa]at l;obtain⟨r,K,s⟩:=p.get _ v l
   grind
 .grind
 .grind
 .show T.c<_;rw[B2];exact f.loc k
 .rw[B2];exact aJ _
 grind [v9]
end
def vF(P:Program)(C:aL)(H:ah)(w:World)(A:Operand->Value)(o:Oper)(v:V)(H':ah):Prop:=∃ek a w' D,(execOp A o).run P w=.ok ek w'/\(ek=.value a\/(ek=.skip/\a=undef))/\Ext C H w D H' w'/\aP D v a
section
variable {P:Program}{C:aL}{H H':ah}{w w':World}{A:Operand->Value}{T:c6}{N:fh}{F:Fr}{dst:Option Tmp}{ty:TypeId}{pos:String}{after:Array Edge}{guard:Option (Nat×Bool)}
def au4(hT:dH P T)(u:Rel C H w)(t:iZ T e=some d){y:Operand}{a v:V}(f:aP C a (A i))(j:aP C v (A y)){r:V×ah}(h:qB d [a,v] H=some r):
 vF P C H w A ⟨dst,.store e i y,ty,pos,after,guard⟩ r.1 r.2:=by
 generalize z:A i=F at f
 generalize B:A y=D at j
 cases f<;>first|(cases h;done)|skip
 rename_i b o l p;obtain⟨c,h⟩:=dA.1 (show aX (and (bM v) (bt (c_ (cellsOf v)) d)) (aq (H.fe b o (cellsOf v)) λH=>some (V.undef,H))=some r from h);obtain⟨E,n,h⟩:=aB.1 h;cases h;rw[de,beq_eq,iw]at c;obtain⟨q,c⟩:=c;have g:=C5 j q;obtain⟨k,m⟩:=E6 (P:=P) u p g n;have s:=g.length;refine⟨.skip,undef,_,C,?_,.inr ⟨rfl,rfl⟩,m,.aH .nil⟩;have x:D.cells.size=d:=by simp at s;omega
 simp only[execOp,Instr.storeAt,z,B,yA,storeVar];simp[m5 hT t,x,k]
def VX(a:Rel C H w){v:V}(b:aP C v (A i)):vF P C H w A ⟨dst,.assign i,ty,pos,after,guard⟩ v H:=⟨.value (A i),A i,w,C,by simp[execOp],.inl rfl,Ext.refl a,b⟩
variable{l:V}
def Qz(h:eu H a 0 l=some c):c=[]:=by
 cases l<;>first|(cases h;done)|skip
 .rename_i s;obtain⟨_,h⟩:=dA.1 (show aX (bt a 1) _=some c from h);obtain⟨t,e,h⟩:=aB.1 (show aq (cW s 0) _=some c from h);cases h;rw[fB]at e;simp at e;subst e;rfl
 .rename_i b o j f;obtain⟨d,i,h⟩:=aB.1 (show aq (H.cells? b) (λd=>cW (eH d o) (fz 0 a))=some c from h);simp_all [j4,fB]
 .obtain⟨_,h⟩:=dA.1 (show aX (fN 0) (some [])=some c from h);cases h;rfl
 .obtain⟨_,h⟩:=dA.1 (show aX (fN 0) (some [])=some c from h);cases h;rfl
 .rename_i m d;have g:cW d (fz 0 a)=some c:=h;simp_all [j4,fB]
 .obtain⟨_,h⟩:=dA.1 (show aX (fN 0) (some [])=some c from h);cases h;rfl
theorem aki(h:eu H a d l=some c):af c=d*a:=by
 cases l<;>first|(cases h;done)|skip
 .rename_i s;obtain⟨e,h⟩:=dA.1 (show aX (bt a 1) _=some c from h);obtain⟨t,k,h⟩:=aB.1 (show aq (cW s d) _=some c from h)
  grind [beq_eq,fB,aqh]
 .rename_i b o n g;obtain⟨f,j,h⟩:=aB.1 (show aq (H.cells? b) (λf=>cW (eH f o) (fz d a))=some c from h)
  grind [fB,e8,p7]
 .obtain⟨e,h⟩:=dA.1 (show aX (fN d) (some [])=some c from h);cases h;have:d=0:=(beq_eq _ _).1 e;subst this;simp
 .obtain⟨e,h⟩:=dA.1 (show aX (fN d) (some [])=some c from h);cases h;have:d=0:=(beq_eq _ _).1 e;subst this;simp
 .rename_i m f;have i:cW f (fz d a)=some c:=h
  grind [fB,e8,p7]
 .obtain⟨e,h⟩:=dA.1 (show aX (fN d) (some [])=some c from h);cases h;have:d=0:=(beq_eq _ _).1 e;subst this;simp
variable{S:TypeInfo}{y:Array TypeId}
def F_{st:TypeId}(m:P.underlying st=some (.slice e))(hi:P.info? e=some S){b ty:TypeId}(n:P.underlying b=some E)(p:∀k,E≠ .int k)
 (f:y[0]? =some st) (g:y[1]? =some b) {x:Value}{o:List Value} (h:Fits P w S.size 0 x o):
 (Builtin.append_ y ty #[.slice none 0 0,x]).run P w=.ok (.slice none 0 0) w:=by
 obtain⟨i,j⟩:=h;have a:=j 0;simp only[dG]at a;unfold Builtin.append_;have c:(#[Value.slice none 0 0,x]:Array Value)[0]? =some (.slice none 0 0):=rfl;have d:(#[Value.slice none 0 0,x]:Array Value)[1]? =some x:=rfl;have l:(sizeOf e).run P w=.ok S.size w:=by simp[sizeOf,sG hi]
 simp only[f,g,c,d,eE,run_underlying m,eO,l,run_underlying n,gl,jk,if_false,i,dG,aJ,lS,if_true,a]
theorem VT(hT:dH P T)(j:Rel C H w){st xt:TypeId}(hu:T.bI st=some (.slice e))(hi:T.info e=some S)(hz:zeroCells T e=some c)(dt:af c=S.size)
 (G:P.underlying xt=some E) (B:∀k,E≠ .int k) (t:y[0]? =some st) (u:y[1]? =some xt) {x:Operand}{aw:V} (hs:aP C l (A i)) (hy:aP C aw (A x)) {r:V×ah} (h:fU S.size S.bytes [l,aw] H=some r):
 vF P C H w A ⟨dst,.call ⟨.builtin .append,#[i,x],y⟩,ty,pos,after,guard⟩ r.1 r.2:=by
 obtain⟨n,hn,bd⟩:=aB.1 (show aq (lI aw) _=some r from h);obtain⟨a9,a3,be⟩:=aB.1 bd;clear h bd;have h:=be;clear be;obtain⟨a',O,c2⟩:=DJ (P:=P) j hy a3;have cs:=Ed (P:=P) (w:=w) hy hn;have v:Fits P w S.size n (A x) a':=⟨cs,c2⟩;obtain⟨d,z,hi',a6,dk⟩:=Ah hT hz;have co:d=S:=by have:=hT.info e S hi;rw[hi']at this;exact Option.some.inj this
 subst co;have a8:z.cells.size=d.size:=by have:=(dk C).length;simp at this;omega
 have D:∀ {ar yv:Value}{v':Value}{w':World},A i=ar->A x=yv->(Builtin.append_ y ty #[ar,yv]).run P w=.ok v' w'->
  (execOp A ⟨dst,.call ⟨.builtin .append,#[i,x],y⟩,ty,pos,after,guard⟩).run P w=.ok (.value v') w':=by
  intro ar yv v' w' J K L;simp only[execOp,resolve,invoke,builtin];simp[J,K,L]
 have F:=hT.bI hu;generalize s:A i=ar at hs
 unfold ku at h;by_cases bo:n=0
 .subst bo;have a7:fN 0=true:=rfl;rw[a7]at h;have c':a9=[]:=Qz a3;subst c';cases O;cases hs<;>first|(cases h;done)|skip
  .rename_i p M bj Y;cases h;exact⟨_,_,_,C,D s rfl (vV F hi' G B t u v aa rfl),.inl rfl,Ext.refl j,.slice M bj Y⟩
  .cases h;exact⟨_,_,_,C,D s rfl (F_ F hi' G B t u v),.inl rfl,Ext.refl j,.aA⟩
  .cases h;exact⟨_,_,_,C,D s rfl (vV F hi' G B t u v aa rfl),.inl rfl,Ext.refl j,.emp _ _⟩
  .rename_i a q bi;cases h;cases a with
   |none=>rw[bi rfl]at s;exact⟨_,_,_,C,D s rfl (F_ F hi' G B t u v),.inl rfl,Ext.refl j,.fQ _ _ (λ_=>rfl)⟩
   |some a=>exact⟨_,_,_,C,D s rfl (vV F hi' G B t u v aa rfl),.inl rfl,Ext.refl j,.fQ _ _ bi⟩
  .rename_i m W o q dp vs aw ci N hv I;cases h;exact⟨_,_,_,C,D s rfl (vV F hi' G B t u v aa rfl),.inl rfl,Ext.refl j,.row ci N hv I⟩
  .rename_i a;cases h;cases a with
   |none=>exact⟨_,_,_,C,D s rfl (F_ F hi' G B t u v),.inl rfl,Ext.refl j,.ie _⟩
   |some a=>exact⟨_,_,_,C,D s rfl (vV F hi' G B t u v aa rfl),.inl rfl,Ext.refl j,.ie _⟩
 .have a7:fN n=false:=mo.2 (λe=>bo ((beq_eq _ _).1 e));rw[a7]at h;have bs:af a'=n*d.size:=by rw[<-O.length];exact aki a3
  cases hs<;>first|(cases h;done)|skip
  .rename_i b o f b1 q p M bj Y;obtain⟨ac,h⟩:=dA.1 h;obtain⟨a1,a2⟩:=Il ac
   have ds:∀ {ae:au},H.dz b o (f*d.size)=some ae->q<f+n->∀ {g:Nat}{Z:ah},yz H Z g (ae++a9)->
    vF P C H w A ⟨dst,.call ⟨.builtin .append,#[i,x],y⟩,ty,pos,after,guard⟩ (.slice H.ag 0 (f+n) (.grown d.size)) Z:=by
    intro ae am ch g Z hA;obtain⟨ba,J,K,L⟩:=zA j M am
    obtain⟨W,N,al,R,U⟩:=F9 (P:=P) (w:=w) (ty:=ty) F hi' a6 a8 G B t u (a:=some ⟨p.c,p.base+o,none⟩) (len:=f) (cap:=q) (old:=ba) v ch
     (λk=>BV (w:= { w with drawn:=w.drawn+k }) J L) a1 a2
    have ab:=H8 (w:=w) j hA (rest:=al) (K.append O) (e:=e);refine⟨_,_,_,_,D s rfl U,.inl rfl,ab,.slice (aL.uK _ _ _) N ?_⟩;show 0+W*d.size<=_;have a0:af (ba++a')=(f+n)*d.size:=by grind
    rw[a0,R,<-fT,eW];exact ei _ aa
   cases b1 with
   |known k=>
    have hk:q=k:=Y;subst hk;by_cases I:f+n<=q
    .have e:b6 (gY f n) q=true:=(fV _ _).2 I;simp only[e]at h;obtain⟨Z,a5,h⟩:=aB.1 h;cases h;obtain⟨J,K⟩:=E6 (P:=P) j M O a5;have L:p.base+(gY o (fz f d.size))=p.base+o+f*d.size:=by show p.base+(o+f*d.size)=_;omega
     rw[L]at J K;exact⟨_,_,_,C,D s rfl (vV F hi' G B t u v I (by rw[nV];exact J)),.inl rfl,K,.slice M I rfl⟩
    .have e:b6 (gY f n) q=false:=mo.2 (λh=>I ((fV _ _).1 h));simp only[e]at h;obtain⟨ae,am,h⟩:=aB.1 h;obtain⟨X,Q⟩:=Iw h
     grind [iW]
   |grown sz=>
    obtain⟨ap,hB⟩:=dA.1 h;clear h;rw[de,beq_eq]at ap;obtain⟨ap,da⟩:=ap;subst ap;obtain⟨ae,am,ce⟩:=aB.1 hB;obtain⟨X,dl,g,hg,Q⟩:=alD j ce;rw[X];rw[iW]at Q;by_cases I:f+n<=q
    .obtain⟨ba,J,K,L⟩:=zA j M am;have c0:o+f*d.size+af a9<=p.lK:=by have h5:o+q*d.size<=p.lK:=Y;have h6:=O.length;have h7:(f+n)*d.size<=q*d.size:=ei _ I;rw[fT]at h7;omega
     obtain⟨b2,a0⟩:=ajV (P:=P) j Q M hg K J L O da c0;refine⟨_,_,_,_,D s rfl (vV F hi' G B t u v I (by rw[nV];exact b2)),.inl rfl,a0,?_⟩;have:=aP.slice (C:=C.add H.ag ⟨p.c,p.base+o,p.lK-o⟩) (b:=H.ag) (o:=0) (len:=f+n) (cap:=.grown d.size) (cap':=q) (aL.uK _ _ _) I (by show 0+q*d.size<=p.lK-o;have h5:o+q*d.size<=p.lK:=Y;omega)
     exact this
    grind
   |oY=>cases h
   |least k=>
    have hk:k<=q:=Y;obtain⟨cp,h⟩:=dA.1 h;have I:f+n<=k:=(fV _ _).1 cp;obtain⟨Z,a5,h⟩:=aB.1 h;cases h;obtain⟨J,K⟩:=E6 (P:=P) j M O a5;have L:p.base+(gY o (fz f d.size))=p.base+o+f*d.size:=by show p.base+(o+f*d.size)=_;omega
    rw[L]at J K;exact⟨_,_,_,C,D s rfl (vV F hi' G B t u v (c5 I hk) (by rw[nV];exact J)),.inl rfl,K,.slice M (c5 I hk) hk⟩
  .obtain⟨ac,h⟩:=dA.1 h;obtain⟨a1,a2⟩:=Il ac;obtain⟨X,Q⟩:=Iw h;rw[X];obtain⟨W,N,al,R,U⟩:=F9 (P:=P) (w:=w) (ty:=ty) F hi' a6 a8 G B t u (a:=none) (len:=0) (cap:=0) (old:=[]) v aa (λk=>rfl) aa b4;simp only[eW]at U N R;have ab:=H8 (w:=w) j Q (rest:=al) O (e:=e);refine⟨_,_,_,_,D s rfl U,.inl rfl,ab,.slice (aL.uK _ _ _) N ?_⟩;show 0+W*d.size<=_;rw[bs,R,<-fT,eW]
   grind
  .rename_i a;obtain⟨ac,h⟩:=dA.1 h;obtain⟨a1,a2⟩:=Il ac;obtain⟨X,Q⟩:=Iw h;rw[X];obtain⟨W,N,al,R,U⟩:=F9 (P:=P) (w:=w) (ty:=ty) F hi' a6 a8 G B t u (a:=a) (len:=0) (cap:=0) (old:=[]) v aa (λk=>by cases a<;>simp[Builtin.firstCells,loadCells,loadCellsFrom]) aa b4;simp only[eW]at U N R;have ab:=H8 (w:=w) j Q (rest:=al) O (e:=e);refine⟨_,_,_,_,D s rfl U,.inl rfl,ab,.slice (aL.uK _ _ _) N ?_⟩;show 0+W*d.size<=_;rw[bs,R,<-fT,eW]
   grind
end
section
variable {P:Program}{C:aL}{H H':ah}{w w':World}{A:Operand->Value}{T:c6}{N:fh}{F:Fr}{dst:Option Tmp}{ty:TypeId}{pos:String}{after:Array Edge}{guard:Option (Nat×Bool)}
def ji(w:World)(c:Nat)(o:Obj):World:= { w with heap:=w.heap.setIfInBounds c o }
theorem o3(h:a≠d)(o:Obj):(ji w a o).heap[d]? =w.heap[d]? :=by
 show(w.heap.setIfInBounds a o)[d]? =_
 grind
theorem zM(h:a<w.heap.size)(o:Obj):(ji w a o).heap[a]? =some o:=by show(w.heap.setIfInBounds a o)[a]? =_;simp[h]
def J1{o o':Obj}(h:w.heap[a]? =some o)(b:ID o=false):(setObj a o').run P w=.ok () (ji w a o'):=by cases o<;>first|(cases b;done)|simp[setObj,Sem.run,h,ji]
theorem ET{o:Obj}(h:w.heap[a]? =some o)(g:ID o=false)(k:∀f e,o≠ .pending f e)(x:Obj):iQ w (ji w a x):=⟨rfl,rfl,rfl,λ{c i} b=>by
 by_cases e:a=c
 .subst e;obtain⟨⟨v,d⟩,_⟩:=b;unfold World.cell? at d;rw[h]at d;cases o<;>first|(cases g;done)|grind|(simp at d;done)
 grind [sZ.of_heap,o3],λc f t j b=>by
 by_cases e:a=c
 .subst e;rw[h]at b;cases b;cases g
 grind [o3]⟩
theorem zc(k:Rel C H w){l:Loc}(u:C d=some l){o o':p8}(D:H.get d=.bW o){x:Obj}(hx:wK C (ji w l.c x) l.c o')(a0:∀y,o≠ .ro y:=by intro _ h;cases h):Ext C H w C (H.set d (.bW o')) (ji w l.c x):=by
 have ab:(ji w l.c x).heap.size=w.heap.size:=by simp[ji]
 have J:∀ {b:Nat}{s:Loc},C b=some s->b≠d->s.c≠l.c:=by intro b s f j t;obtain⟨_,_,_,_,_,F⟩:=(k.inj f u t j).resolve_right (λn=>by rw[D]at n;cases n.2);rw[D]at F;cases F
 have N:∀ {b:Nat}{A:au}{g:Nat},(H.set d (.bW o')).get b=.cells A g->b≠d/\H.get b=.cells A g:=by
  intro b A g h;rw[ah.aT]at h;split at h
  .cases h
  .grind
 have O:∀ {b a p:Nat},(H.set d (.bW o')).get b=.bV a p->H.get b=.bV a p:=by
  intro b a p h;rw[ah.aT]at h;split at h
  .cases h
  .exact h
 have X:∀ {b g:Nat},(H.set d (.bW o')).gr b g=true->H.gr b g=true:=by
  intro b g h;rcases gJ.1 h with e|⟨a,p,e,B⟩
  .exact gJ.2 (.inl e)
  .exact gJ.2 (.inr ⟨a,p,O e,B⟩)
 have V:∀ {p i:Nat},p≠l.c->(ji w l.c x).cell? ⟨p,i,none⟩=w.cell? ⟨p,i,none⟩:=by intro p i h;unfold World.cell?;grind [o3]
 have W:∀ {p i:Nat},p≠l.c->(ji w l.c x).frozen? ⟨p,i,none⟩=w.frozen? ⟨p,i,none⟩:=by intro p i h;unfold World.frozen?;grind [o3]
 have Z:iQ w (ji w l.c x):=by
  have z:=(k.bW u D).2;cases o with
  |map S=>obtain⟨T,q,_⟩:=z;exact ET q rfl aI x
  |iter m a d p R=>obtain⟨lm,_,_,q,_⟩:=z;exact ET q rfl aI x
  |loop L=>obtain⟨r,q,_⟩:=z;exact ET q rfl aI x
  |ro y=>grind
 have Y:∀i,¬i<l.lK:=by
  intro i hi;obtain⟨⟨v,K⟩,_⟩:=k.room u hi;have z:=(k.bW u D).2;unfold World.cell? at K;cases o with
  |map S=>obtain⟨T,q,_⟩:=z;simp[q]at K
  |iter m a d p R=>obtain⟨lm,_,_,q,_⟩:=z;simp[q]at K
  |loop L=>obtain⟨r,q,_⟩:=z;simp[q]at K
  |ro y=>grind
 refine⟨⟨?_,?_,?_,?_,?_,?_,?_,?_,?_,λe=>(k.gf e).keep (o3 (λU=>(k.gf e).xO u (by rw[D];simp) U) x) (λb s f j=>by
  have t:=(k.gf e).off b s f j;rw[ah.aT,ao (λG=>by grind)];exact t),λ{a4 ar aw} e=>by
  rw[ah.aT]at e;split at e
  .cases e
  .exact k.n9 e⟩,aL.le_refl C,λf j=>absurd (f.symm.trans j) aI,?_,aJ _,?_,aa,Z,λ{b s} f j=>⟨by rw[ah.aT,ao (λe=>by grind)];exact j,o3 (λe=>J f (λB=>by grind) e.symm) x⟩,λ_ _ e=>.inl e⟩
 .intro b s A g i v f j t G;obtain⟨I,E⟩:=N j;obtain⟨v',q,M⟩:=k.cell f E (X t) G
  grind
 .intro b s i f j;by_cases e:b=d
  .subst e;rw[u]at f;cases f;exact absurd j (Y i)
  .rw[V (J f e),W (J f e)];exact k.room f j
 .intro b s A g f j;exact k.len f (N j).2
 .intro b b2 s l2 f j t G;rcases k.inj f j t G with⟨Q,F,g,q,M,P⟩|⟨n1,n2⟩
  .refine .inl ⟨Q,F,g,q,?_,?_⟩
   .rw[ah.aT,ao b4];exact M
   .rw[ah.aT,ao b4];exact P
  .refine .inr ⟨?_,?_⟩
   .rw[ah.aT,ao b4];exact n1
   .rw[ah.aT,ao b4];exact n2
 .intro b q;obtain⟨I,E⟩:=k.top (b:=b) q;refine⟨I,?_⟩;rw[ah.aT,ao b4];exact E
 .intro b s f;rw[ab];exact k.loc f
 .intro b A g ad br f j t;exact k.mem (N f).2 j (O t)
 .intro g ad br f;exact k.n7 (O f)
 .intro b s o1 f j;by_cases e:b=d
  .subst e;rw[u]at f;cases f;rw[ah.aT,ay rfl]at j;cases j;exact⟨(k.bW u D).1,hx⟩
  .rw[ah.aT,ao (λB=>e B.symm)]at j;obtain⟨I,E⟩:=k.bW f j;exact⟨I,E.mono (aL.le_refl C) (o3 (λB=>J f e B.symm) x)⟩
 .intro b q M P;rw[ah.aT,ao b4]
 grind [o3]
theorem H7(k:Rel C H w){o:p8}{x:Obj}(Z:wK (C.add H.ag ⟨w.heap.size,0,0⟩) (w.alloc x) w.heap.size o):
 Ext C H w (C.add H.ag ⟨w.heap.size,0,0⟩) (H.push (.bW o)) (w.alloc x):=by
 have T:C H.ag=none:=(k.top (aJ _)).1;have E:=aL.wz (l:=⟨w.heap.size,0,0⟩) T;have U:(w.alloc x).heap.size=w.heap.size+1:=by show(w.heap.push x).size=_;simp
 have r:∀ {y:Nat}{l:Loc},C.add H.ag ⟨w.heap.size,0,0⟩ y=some l->(y=H.ag/\l=⟨w.heap.size,0,0⟩)\/(y≠H.ag/\C y=some l):=by
  intro y l I;rw[aL.add_get]at I;split at I
  .grind
  .grind
 have z:∀ {c:Nat},c<w.heap.size->(w.alloc x).heap[c]? =w.heap[c]? :=by intro c h;show(w.heap.push x)[c]? =_;simp[Array.getElem?_push,Nat.ne_of_lt h]
 have F:∀ {c i:Nat},c<w.heap.size->(w.alloc x).cell? ⟨c,i,none⟩=w.cell? ⟨c,i,none⟩:=by intro c i h;unfold World.cell?;rw[z h]
 have P:∀ {c i:Nat},c<w.heap.size->(w.alloc x).frozen? ⟨c,i,none⟩=w.frozen? ⟨c,i,none⟩:=by intro c i h;unfold World.frozen?;rw[z h]
 have B:∀ {b:Nat}{p:au}{g:Nat},(H.push (.bW o)).get b=.cells p g->H.get b=.cells p g:=by
  intro b p g h;rw[ah.bl]at h;split at h
  .cases h
  .exact h
 have D:∀ {b a c:Nat},(H.push (.bW o)).get b=.bV a c->H.get b=.bV a c:=by
  intro b a c h;rw[ah.bl]at h;split at h
  .cases h
  .exact h
 have R:∀ {b g:Nat},(H.push (.bW o)).gr b g=true->H.gr b g=true:=by
  intro b g h;rcases gJ.1 h with e|⟨a,c,e,J⟩
  .exact gJ.2 (.inl e)
  .exact gJ.2 (.inr ⟨a,c,D e,J⟩)
 have G:∀ {b:Nat}{n:Loc}{p:au}{g:Nat},C.add H.ag ⟨w.heap.size,0,0⟩ b=some n->(H.push (.bW o)).get b=.cells p g->C b=some n:=by
  intro b n p g d j;rcases r d with⟨rfl,rfl⟩|⟨_,f⟩
  .simp_all [ah.bl,ay]
  .exact f
 have Q:∀ {c:Nat}{y:Obj},C.im c=some y->rP (C.add H.ag ⟨w.heap.size,0,0⟩) (H.push (.bW o)) (w.alloc x) c y:=by
  intro c y e;have hi:=k.gf e;have S:=hi.lt;refine hi.keep (z S) ?_;intro b n d j;rcases r d with⟨_,rfl⟩|⟨m,q⟩
  .grind
  .rw[ah.bl,ao (λe=>m e.symm)];exact hi.off _ _ q j
 refine⟨⟨?_,?_,?_,?_,?_,?_,?_,?_,?_,Q,λ{ad Y M} e=>by
  show M<H.ag+1;rw[ah.bl]at e;split at e
  .cases e
  .have:=k.n9 e;omega⟩,E,?_,?_,by show H.ag<=H.ag+1;omega,?_,aa,iQ.alloc w x,λ{b n} d j=>⟨by rw[ah.bl,ao (λe=>by grind)];exact j,z (k.loc d)⟩,λ_ _ e=>.inl e⟩
 .intro b n p g i v d j t A;have q:=G d j;obtain⟨W,m,s⟩:=k.cell q (B j) (R t) A;exact⟨W,by rw[F (k.loc q)];exact m,s.mono E⟩
 .intro b n i d j;rcases r d with⟨rfl,rfl⟩|⟨_,f⟩
  .grind
  .rw[F (k.loc f),P (k.loc f)];exact k.room f j
 .intro b n p g d j;exact k.len (G d j) (B j)
 .intro b X n l2 d j t A;rcases r d with⟨m,N⟩|⟨m,q⟩
  .rcases r j with⟨s,O⟩|⟨s,u⟩
   .omega
   .have:=k.loc u;grind
  .rcases r j with⟨s,O⟩|⟨s,u⟩
   .have:=k.loc q;grind
   .rw[ah.bl,ao (λe=>m e.symm),ah.bl,ao (λe=>s e.symm)];exact k.inj q u t A
 .intro b m;have N:H.ag+1<=b:=m;obtain⟨q,u⟩:=k.top (b:=b) aa;refine⟨?_,?_⟩
  .simp_all [aL.add_get,ao];omega
  .rw[ah.bl,ao aa];exact u
 .intro b n d;rw[U];rcases r d with⟨rfl,rfl⟩|⟨_,f⟩
  .simp
  .have:=k.loc f;omega
 .intro b p g V br d j t;exact k.mem (B d) j (D t)
 .intro g V br d;exact k.n7 (D d)
 .intro b n o1 d j;rcases r d with⟨rfl,rfl⟩|⟨m,f⟩
  .rw[ah.bl,ay rfl]at j
   grind
  .rw[ah.bl,ao (λe=>m e.symm)]at j;obtain⟨K,L⟩:=k.bW f j;exact⟨K,L.mono E (z (k.loc f))⟩
 .grind
 .intro b m _ _;rw[ah.bl,ao aa]
 grind
def F5(x:Obj):(w.alloc x).heap[w.heap.size]? =some x:=by show(w.heap.push x)[w.heap.size]? =_;simp
def aqD(a:Rel C H w){r:V×ah}(h:IW [] H=some r):vF P C H w A ⟨dst,.makeMap e none,ty,pos,after,guard⟩ r.1 r.2:=by cases h;refine⟨.value (.map (some w.heap.size)),_,w.alloc (.map #[] 0),_,?_,.inl rfl,H7 a ⟨[],F5 _,by simp[s7]⟩,.map (aL.uK _ _ _)⟩;simp[execOp,Instr.makeMap]
theorem Sg(n:Nat):a∈upto n↔a<n:=by
 induction n with
 |zero=>show a∈[]↔_;simp
 |succ n b=>
  show a∈n::upto n↔_
  grind
variable{l:V}
def asX(hT:dH P T)(b:Rel C H w){s a:TypeId}(n:T.bI e=some (.map s a))(f:aP C l (A i)){r:V×ah}(h:BL [l] H=some r):vF P C H w A ⟨dst,.range e i,ty,pos,after,guard⟩ r.1 r.2:=by
 generalize p:A i=x at f
 cases f<;>first|(cases h;done)|skip
 rename_i t j g;obtain⟨d,m,h⟩:=aB.1 (show aq (H.j9 t) _=some r from h);cases h;obtain⟨u,k,v⟩:=Bm b g m;have o:=wS (P:=P) k rfl;refine⟨.value (.pointer (some ⟨w.heap.size,0,none⟩)),_,w.alloc (.mapIter (some j.c) d.length #[] d.length),_,?_,.inl rfl,H7 b ⟨j,[],aL.wz (b.top (aJ _)).1 _ _ g,?_,λa=>absurd rfl a,rfl,λq hi _=>(Sg _).2 hi,λq hi=>⟨(Sg _).1 hi,aI⟩⟩,?_⟩
 .simp only[execOp,Instr.range,p,eE,run_underlying (hT.bI n),eO,o,gl,run_newObj];rfl
 .rw[F5,iw]
 .have:=aP.ptr (o:=0) (aL.uK C H.ag ⟨w.heap.size,0,0⟩);simpa using this
theorem Sb(l:List f)(x:f):∀n,Bg l x n=l.set n x:=by
 induction l with
 |nil=>intro n;rfl
 |cons a l b=>intro n;cases n with
  |zero=>rfl
  |succ n=>exact congrArg (a:: ·) (b n)
def Xf{a:V}(h:xD E a l=some true):a=l/\(match a with|.int _ _=>True|_=>False):=by
 cases E<;>first|(cases h;done)|skip
 cases a<;>first|(cases h;done)|skip
 cases l<;>first|(cases h;done)|skip
 rename_i k x b y;obtain⟨c,h⟩:=dA.1 (show aX (iF k b) (some (n_ x y))=some true from h);have d:n_ x y=true:=Option.some.inj h;simp_all [xY,tK,trivial]
def Xe{a:V}(h:xD E a l=some true){b c:Value}(e:aP C a b)(f:aP C l c)(n:Nat):b=c/\Instr.sameBits n c b=true:=by
 obtain⟨rfl,d⟩:=Xf h;cases e<;>first|(exact d.elim)|skip
 all_goals cases f<;>exact⟨rfl,by cases n<;>simp[Instr.sameBits,beq_toListBytes]⟩
def Xh:∀ {ds:List TypeDesc}{c e:au},oM ds c e=some true->∀ {f g:List Value},bu C c f->bu C e g->∀n,f=g/\(g.zip f).all (λ(x,y)=>Instr.sameBits n x y)=true:=by
 intro ds;induction ds with
 |nil=>
  intro c e h f g i j n;cases c<;>cases e<;>first|(cases h;done)|skip
  cases i;cases j;exact⟨rfl,rfl⟩
 |cons d ds z=>
  intro c e h f g i j n;obtain⟨x,c,y,e,a,b,rfl,rfl,k,l,m⟩:=Gw h;have o:a=true/\b=true:=by simpa using m.symm
  obtain⟨rfl,rfl⟩:=o;obtain⟨A,B,rfl,t,u⟩:=i.cons_inv;obtain⟨D,E,rfl,v,w⟩:=j.cons_inv;obtain⟨p,q⟩:=Xe k t v n;obtain⟨r,s⟩:=z l u w n;exact⟨by rw[p,r],by simp[q];simpa using s⟩
variable{z:V->V->Option Bool}
def apG(k:tL T e=some z){a:V}(h:z a l=some true){b c:Value}(i:aP C a b)(j:aP C l c):Instr.sameBits 10000 c b=true:=by
 obtain⟨_,_,ds,_,_,rfl⟩:=A9 k;obtain⟨x,y,rfl,rfl,g⟩:=IN h;obtain⟨o,rfl,m⟩:=i.Ax;obtain⟨p,rfl,n⟩:=j.Ax;obtain⟨d,f⟩:=Xh g m n 9999;have hl:af o=af p:=by rw[d]
 simp[Instr.sameBits,hl];simpa using f
theorem aqM:∀ {a:List (V×V)}{i j:Nat}{v:V},rm z l a i=some (some (j,v))->∃c,i<=j/\a[j-i]? =some (c,v)/\z l c=some true:=by
 intro a;induction a with
 |nil=>intro i j v h;cases h
 |cons e a g=>
  intro i j v h;obtain⟨b,f,⟨rfl,d⟩|⟨rfl,d⟩⟩:=Si h
  .grind
  grind
theorem av1(hT:dH P T)(p:Rel C H w){O m:TypeId}(X:T.bI e=some (.map O m))(A:tL T O=some z){k v:V}{Q c f:Value}(hm:aP C l Q)(n:aP C k c)(hv:aP C v f){r:V×ah}(h:Aa z [l,k,v] H=some r):
 ∃w',(Instr.mapUpdate e Q c f).run P w=.ok () w'/\Ext C H w C r.2 w'/\r.1=V.undef:=by
 cases hm<;>first|(cases h;done)|skip
 rename_i a7 a6 o;obtain⟨b,U,h⟩:=aB.1 (show aq (z k k) _=some r from h);obtain⟨a,G,h⟩:=aB.1 h;obtain⟨q,I,h⟩:=aB.1 h;have M:=IX G;obtain⟨d,t,g⟩:=Bm p o G;obtain⟨R,g3,y⟩:=Qx hT A n g I w;have L:=wS (P:=P) t rfl;have K:=ML hT A n U false w;have a3:=p.loc o;have N:=run_underlying (hT.bI X) w;cases q with
 |none=>
  cases h;cases R with
  |some x=>exact y.elim
  |none=>
   have B:=J1 (P:=P) (o':=.map ((⟨d⟩:Array MapEntry).push { key:=c,val:=f,born:=a.length }) (af a+1)) t rfl;refine⟨_,?_,zc p o M (o':=.map (dJ a [(k,v)])) (x:=.map ((⟨d⟩:Array MapEntry).push { key:=c,val:=f,born:=a.length }) (af a+1)) ?_,rfl⟩
   .simp only[Instr.mapUpdate,eE,N,eO,L,K,g3,B]
   .refine⟨d++[{ key:=c,val:=f,born:=a.length }],?_,?_⟩
    .grind [zM,iW]
    .rw[iW];refine⟨by simp[g.1],?_⟩;intro i D E hi;rcases rY i a.length with ac|hge
     .rw[s4 ac]at hi;obtain⟨x,s,F⟩:=g.2 i D E hi
      grind
     .rw[vI hge]at hi;have Y:i=af a:=by have:=(jo.1 hi).1;simp at this;omega
      subst Y;simp at hi;obtain⟨rfl,rfl⟩:=hi;refine⟨{ key:=c,val:=f,born:=a.length },?_,n,hv,rfl⟩;rw[vI (by rw[g.1];exact aJ _),g.1];simp
 |some x=>
  obtain⟨j,u⟩:=x;cases h;cases R with
  |none=>exact y.elim
  |some x'=>
   obtain⟨j',u'⟩:=x';obtain⟨rfl,a4⟩:=y;obtain⟨k0,_,J,S⟩:=aqM I;rw[Nat.sub_zero]at J;obtain⟨x0,s,F,f3,f4⟩:=g.2 j k0 u J;have W:=apG A S n F;have a2:j<af d:=(jo.1 s).1;have B:=J1 (P:=P) (o':=.map ((⟨d⟩:Array MapEntry).modify j λm=> { m with key:=c,val:=f }) a.length) t rfl;refine⟨_,?_,zc p o M (o':=.map (Bg a (k,v) j)) (x:=.map ((⟨d⟩:Array MapEntry).modify j λm=> { m with key:=c,val:=f }) a.length) ?_,rfl⟩
   .have ab:(Instr.keyThatStays ((((⟨d⟩:Array MapEntry)[j]?).map (·.key)).getD c) c).run P w=.ok c w:=by
     have:(⟨d⟩:Array MapEntry)[j]? =some x0:=by simpa using s
     simp[Instr.keyThatStays,this,W]
    simp only[Instr.mapUpdate,eE,N,eO,L,K,g3,ab,B]
   .refine⟨d.modify j λm=> { m with key:=c,val:=f },?_,?_⟩
    .grind [zM,Sb]
    .rw[Sb];refine⟨by simp[g.1],?_⟩;intro i D E hi;rw[rS]at hi;rw[List.getElem?_modify];by_cases Z:j=i
     .grind
     .rw[ao Z]at hi;obtain⟨x,e1,e2⟩:=g.2 i D E hi
      grind
end
section
variable {P:Program}{C:aL}{H H':ah}{w w':World}{A:Operand->Value}{T:c6}{N:fh}{F:Fr}{dst:Option Tmp}{ty:TypeId}{pos:String}{after:Array Edge}{guard:Option (Nat×Bool)}
variable{y:Array TypeId}{l:V}
theorem XU(hT:dH P T)(g:Rel C H w){st:TypeId}(X:T.bI st=some (.slice e))(M:iZ T e=some d)(L:y[0]? =some st){x:Operand}{v:V}(N:aP C l (A i))(j:aP C v (A x)){r:V×ah}(h:oP d [l,v] H=some r):
 vF P C H w A ⟨dst,.call ⟨.builtin .copy,#[i,x],y⟩,ty,pos,after,guard⟩ r.1 r.2:=by
 have O:=run_underlying (hT.bI X)
 have G:∀ {a:Option Addr}{u E m k:Nat}{n:List Value}{w':World},A i=.slice a u E->(Builtin.lenOf (A x)).run P w=.ok m w->Nat.min m u=k->(Builtin.firstCells d k (A x)).run P w=.ok ⟨n⟩ w->
  (match a with|some a=>storeCells a n|none=>pure ():Sem Unit).run P w=.ok () w'->
  (execOp A ⟨dst,.call ⟨.builtin .copy,#[i,x],y⟩,ty,pos,after,guard⟩).run P w=.ok (.value (.int .i64 k)) w':=by
  intro a u E m k n w' z B J K F;simp only[execOp,resolve,invoke,builtin,Builtin.copy_];have g0:(#[A i,A x]:Array Value)[0]? =some (A i):=rfl;have g1:(#[A i,A x]:Array Value)[1]? =some (A x):=rfl;have ad:(#[i,x]:Array Operand).map A=#[A i,A x]:=aI;cases a with
  |none=>cases F;simp[L,z,O,B,J,m5 hT M,K,goInt]
  |some a=>simp at F;simp[L,z,O,B,J,m5 hT M,K,goInt,F]
 generalize I:A i=ap at N
 cases N<;>first|(cases h;done)|skip
 .rename_i b o u E Z am U ae al;obtain⟨m,s,p⟩:=aB.1 (show aq (lI v) _=some r from h);obtain⟨Q,f,q⟩:=aB.1 p;obtain⟨Y,W,S⟩:=aB.1 q;cases S;obtain⟨n,D,t⟩:=DJ (P:=P) g j f;obtain⟨z,B⟩:=E6 (P:=P) g U D W;have c:=t 0;simp only[dG]at c;refine⟨_,_,_,C,G I (Ed j s) (k:=ej m u) (by rw[Bu]) c z,.inl rfl,B,.int _ _⟩
 .obtain⟨m,s,p⟩:=aB.1 (show aq (lI v) _=some r from h);obtain⟨Q,f,q⟩:=aB.1 p;cases q;obtain⟨n,D,t⟩:=DJ (P:=P) g j f;have c:=t 0;simp only[dG]at c;exact⟨_,_,_,C,G I (Ed j s) (k:=0) aI c rfl,.inl rfl,Ext.refl g,.int _ _⟩
 .obtain⟨m,s,p⟩:=aB.1 (show aq (lI v) _=some r from h);obtain⟨Q,f,q⟩:=aB.1 p;cases q;have R:=Qz f;subst R;obtain⟨n,D,t⟩:=DJ (P:=P) g j f;cases D;have c:=t 0;simp only[dG]at c;exact⟨_,_,_,C,G I (Ed j s) (k:=0) aI c rfl,.inl rfl,Ext.refl g,.int _ _⟩
theorem ajt(hT:dH P T)(J:Rel C H w)(o:Oper){g:au->ah->Option (V×ah)}(j:cop N T o.op=.hG t g)(G:kJ C F A o.op.operands.toList){r:V×ah}(h:g (vals t F) H=some r):
 vF P C H w A o r.1 r.2:=by
 obtain⟨dst,a0,ty,pos,after,guard⟩:=o;simp only at j G;cases a0<;>simp only[cop,reduceCtorEq]at j<;>simp only[Op.operands]at G
 case assign x=>obtain⟨f,E,j⟩:=aB.1 (ew j aI);cases j;cases h;exact VX J (qp G E)
 case store Q a v=>obtain⟨K,E,j⟩:=aB.1 (ew j aI);obtain⟨n,Y,j⟩:=aB.1 j;cases j;obtain⟨x,y,D,B,u⟩:=z8 G E;rw[D]at h;exact au4 hT J Y B u h
 case makeMap Q q=>cases q<;>cases j;exact aqD J h
 case mapUpdate Q m k v=>obtain⟨K,R,j⟩:=aB.1 (ew j aI);obtain⟨d,L,j⟩:=aB.1 j;cases d<;>simp only[reduceCtorEq]at j;obtain⟨f,E,j⟩:=aB.1 j;cases j;obtain⟨a,b,c,D,B,u,M⟩:=Ue G R;rw[D]at h;obtain⟨w',Z,g2,g3⟩:=av1 hT J L E B u M h;exact⟨.skip,undef,w',C,by simp[execOp,Z],.inr ⟨rfl,rfl⟩,g2,by rw[g3];exact .aH .nil⟩
 case range Q x=>obtain⟨f,E,j⟩:=aB.1 (ew j aI);obtain⟨d,L,j⟩:=aB.1 j;cases d<;>simp only[reduceCtorEq]at j<;>cases j;exact asX hT J L (qp G E) h
 case call c=>
  obtain⟨callee,args,ts⟩:=c;have I:=ew j aI;clear j;have ad:kJ C F A args.toList:=λy hy=>G y (by simp[Call.operands];exact .inr (by simpa using hy))
  cases callee with
  |value x=>cases x<;>simp only[]at I<;>exact dead I
  |invoke x m=>cases I
  |builtin bi=>
   obtain⟨K,R,I⟩:=aB.1 I;have p:=ew (Option.some.inj I) aI;obtain⟨Q,ht,p⟩:=aB.1 p;obtain⟨d,L,p⟩:=aB.1 p;have al:=lk ht;have D:=qq R ad
   have W:∀ {q:au->ah->Option (V×ah)},(∀ {a b c},q (a::b::c) H=some r->c=[])->(∀ {a},q [a] H≠some r)->q [] H≠some r->q (vals K F) H=some r->
    ∃x y a b,args=#[x,y]/\vals K F=[a,b]/\aP C a (A x)/\aP C b (A y):=by
    intro q a3 q1 q0 s;generalize hl:vals K F=l at D s
    obtain⟨m⟩:=args
    match l,s with
    |[],s=>exact absurd s q0
    |[a],s=>exact absurd s q1
    |a::b::c,s=>
     have:=a3 s;subst this
     match m with
     |[]=>cases D
     |[_]=>cases D with|cons _ u=>cases u
     |[x,y]=>cases D with|cons B u=>cases u with|cons M S=>exact⟨x,y,a,b,rfl,rfl,B,M⟩
     |_::_::_::_=>cases D with|cons B u=>cases u with|cons M S=>cases S
   cases bi<;>simp only[reduceCtorEq]at p
   case append=>
    split at p
    .rename_i e ac;obtain⟨i,hi,p⟩:=aB.1 p;obtain⟨z,O,p⟩:=aB.1 p;obtain⟨zs,aw,p⟩:=aB.1 p;obtain⟨X,p⟩:=dA.1 p;cases z<;>simp only[reduceCtorEq,Option.some.injEq,cl.hG.injEq]at p;obtain⟨rfl,rfl⟩:=p;obtain⟨xt,ap,O⟩:=aB.1 O;obtain⟨a5,am,O⟩:=aB.1 O;obtain⟨x,y,a,b,rfl,U,B,u⟩:=W (q:=fU i.size i.bytes) (λ{a b c} s=>by cases c with|nil=>rfl|cons=>cases s) (λs=>by cases s) (λs=>by cases s) h;rw[U]at h;rw[beq_eq,iw]at X;refine VT hT J L hi aw X (hT.bI am) (λk e=>?_) al (lk ap) B u h
     grind
    .cases p
   case copy=>
    split at p
    .rename_i e ac;obtain⟨n,Y,p⟩:=aB.1 p;cases p;obtain⟨x,y,a,b,rfl,U,B,u⟩:=W (q:=oP n) (λ{a b c} s=>by cases c with|nil=>rfl|cons=>cases a<;>cases s) (λ{a} s=>by cases a<;>cases s) (λs=>by cases s) h
     grind [XU]
    .cases p
   all_goals exact dead p
 case makeFunc f _ _=>cases f<;>simp only[reduceCtorEq]at j;exact dead j
 all_goals exact dead j
end
section
variable {P:Program}{C:aL}{H H':ah}{w:World}{A:Operand->Value}{T:c6}{N:fh}{F F':Fr}{G:Nat}
def J0{f:FuncId}{fn:Func}{c:Code}(b:P.funcs[f]? =some fn)(a:fn.body=some c)(d:(fn.name== "runtime.NumGoroutine")=false)(args:Array Value)(w:World):(callFunc f args).run P w=.ok (.enter f args) w:=by
 have e:¬fn.name= "runtime.NumGoroutine":=by simpa using d
 simp[callFunc,b,e,a]
def KT(P:Program)(f:FuncId):Prop:=∃fn c,P.funcs[f]? =some fn/\fn.body=some c/\(fn.name== "runtime.NumGoroutine")=false
def KR(P:Program)(C:aL)(w:World)(s:Sem Next)(args:au):qW->Prop
 |.fn f=>KT P f->∃a,s.run P w=.ok (.enter f ⟨a⟩) w/\bu C args a
 |.jZ b=>∃l a,C b=some l/\s.run P w=(Instr.yield l.c ⟨a⟩).run P w/\bu C args a
theorem W1(M:∀f,A (.func f)=.func (.func f) #[] #[]) (o:Oper) {g:au->Option (qW×au)} (e:cop N T o.op=.call t g) (n:kJ C F A o.op.operands.toList) {q:qW}{args:au} (h:g (vals t F)=some (q,args)):
 KR P C w (execOp A o) args q:=by
 obtain⟨J,S,X,U,after,guard⟩:=o;simp only at e n;cases S<;>simp only[cop,reduceCtorEq]at e<;>simp only[Op.operands]at n
 case call c=>
  obtain⟨callee,d,W⟩:=c;have a:=ew e aI;clear e;have R:kJ C F A d.toList:=λy G=>n y (by simp[Call.operands];grind)
  have s:d.map A=⟨d.toList.map A⟩:=by apply um;simp
  cases callee with
  |value x=>
   have Z:∀ {i:List (Fr->V)},jA (x::d.toList)=some i->oL (vals i F)=some (q,args)->KR P C w (execOp A ⟨J,.call ⟨.value x,d,W⟩,X,U,after,guard⟩) args q:=by
    intro i p k;have v:=qq p (C:=C) (F:=F) (A:=A) (λy G=>n y (by simp[Call.operands];simpa using G));generalize vals i F=l at v k
    rw[List.map_cons]at v;cases v with
    |cons z B=>
     generalize E:A x=x' at z
     cases z<;>first|(cases k;done)|skip
     .rename_i K as bs H I O Q;cases k;rintro⟨fn,c,r,j,u⟩;refine⟨H++(d.toList.map A++I),?_,?_⟩
      .simp only[execOp,resolve,E,Deferred.ofValue,invoke];simp only[eE,gl,eO];rw[J0 r j u];congr 2;apply um;simp[s]
      .rw[iW,iW];exact O.append (B.append Q)
     .rename_i b l j;cases k;refine⟨l,d.toList.map A,j,?_,B⟩;simp only[execOp,resolve,E,Deferred.ofValue,invoke];simp only[eE,gl,eO];congr 2;apply um;simp[s]
   cases x<;>simp only[]at a
   case func K=>
    obtain⟨L,Y,a⟩:=aB.1 a;obtain⟨i,p,a⟩:=aB.1 a;cases D:L.body with
    |none=>rw[D]at a;exact dead a
    |some b=>rw[D]at a;cases a;cases h;rintro⟨fn,c,r,j,u⟩;refine⟨d.toList.map A,?_,qq p R⟩;simp only[execOp,resolve,M,Deferred.ofValue,invoke];simp only[eE,gl,eO];rw[J0 r j u];congr 2;apply um;simp[s]
   all_goals
    obtain⟨i,p,a⟩:=aB.1 a;simp_all
  |invoke x m=>cases a
  |builtin bi=>exact dead a
 case makeFunc f _ _=>cases f<;>simp only[reduceCtorEq]at e;exact dead e
 all_goals exact dead e
end
theorem ri{c:Type}{f:c->c->Bool}(e:∀a b,f a b=true->a=b):∀l m,gq f l m=true->l=m:=by
 intro l;induction l with
 |nil=>intro m h;cases m with
  |nil=>rfl
  |cons=>cases h
 |cons a l g=>intro m h;cases m with
  |nil=>cases h
  |cons b m=>
   have d:and (f a b) (gq f l m)=true:=h
   grind
variable{Y:Cap}
theorem WV{a:Cap}(h:Gr a Y=true):a=Y:=by cases a<;>cases Y<;>first|(cases h;done)|rfl|(rw[(beq_eq _ _).1 h])
theorem KC:∀n a b,uf n a b=true->a=b:=by
 intro n;induction n with
 |zero=>intro a b h;cases h
 |succ n d=>
  intro a b h;cases a<;>cases b<;>first|(cases h;done)|skip
  .rename_i x y;cases x<;>cases y<;>first|rfl|cases h
  .rename_i k x l y;have c:and (iF k l) (n_ x y)=true:=h;simp_all [de,xY,tK,decide_eq_true_eq]
  .rename_i x y;rw[ri (f:=o8) (λa b h=>by grind [Ky]) x y h]
  .rename_i x y z t;have c:and (bt x z) (bt y t)=true:=h;simp_all
  .rfl
  .rename_i p q r s x y z t;have c:and (and (bt p x) (bt q y)) (and (bt r z) (Gr s t))=true:=h;rw[de,de,de,beq_eq,beq_eq,beq_eq]at c
   grind [WV]
  .rfl
  .rfl
  .rename_i x y;rw[(beq_eq _ _).1 h]
  .rfl
  .rename_i f x y g z t;have c:and (bt f g) (and (gq (uf n) x z) (gq (uf n) y t))=true:=h;rw[de,de,beq_eq]at c
   grind [ri]
  .rfl
  .rfl
  .rename_i x y;rw[ri d _ _ h]
  .rename_i x y;rw[ri d _ _ h]
  .rename_i x y z t;have c:and (bt x z) (gq (uf n) y t)=true:=h;rw[de,beq_eq]at c
   grind [ri]
  .rename_i x y z t;have c:and (gq (uf n) x z) (bt y t)=true:=h;rw[de,beq_eq]at c
   grind [ri]
  .rfl
def Post(C:aL)(H:ah)(w:World)(Q:V->ah->Prop)(e:Ending)(b:World):Prop:=∃v a H' D,e=.returned a/\Ext C H w D H' b/\aP D v a/\Q v H'
def dD(P:Program)(G:Nat)(t:qW)(args:au)(H:ah)(Q:V->ah->Prop):Prop:=match t with
 |.fn f=>KT P f/\∀(C:aL) (w:World) (a:List Value),Rel C H w->mq G C->bu C args a->Calls P f ⟨a⟩ w (Post C H w Q)
 |.jZ b=>∀(C:aL) (w:World) (a:List Value) (l:Loc),Rel C H w->mq G C->bu C args a->C b=some l->
   ∃f tmps assign body,(Instr.yield l.c ⟨a⟩).run P w=.ok (.round l.c f tmps assign body) w/\RoundIn Fence.wide 0 P l.c f tmps assign body w (Post C H w Q)
def Post.mono{Q c:V->ah->Prop}(h:∀v H',Q v H'->c v H'){e:Ending}{d:World}(p:Post o b r Q e d):Post o b r c e d:=let⟨v,k,H',D,f,g,i,j⟩:=p;⟨v,k,H',D,f,g,i,h _ _ j⟩
def dD.mono{P:Program}{t:qW}{args:au}{Q j:V->ah->Prop}(h:∀v H',Q v H'->j v H')(c:dD P d t args b Q):dD P d t args b j:=by
 cases t with
 |fn f=>exact⟨c.1,λ_ _ _ e g i=>(c.2 _ _ _ e g i).mono λ_ _=>Post.mono h⟩
 |jZ o=>exactλ_ _ _ _ e g i n=>let⟨f,t,a,k,l,m⟩:=c _ _ _ _ e g i n;⟨f,t,a,k,l,m.mono λ_ _=>Post.mono h⟩
def qE(i:Nat)(l:av):av:=l9 (λj=> !(bt j i)) l
def CD(v:V)(H:ah)(Q:V->ah->Prop):Prop:=∃b m since left c d a,v=.ptr b 0/\H.get b=.bW (.iter m since left c d)/\H.get m=.bW (.map a)/\
 (∀i k x,a[i]? =some (k,x)->(i∈left\/since<=i)->Q (.aH [.bool true,k,x]) (H.set b (.bW (.iter m since (qE i left) (some i) a.length))))/\
 ((∀i∈left,af a<=i)->Q (.aH [.bool false]) H)
def kq(P:Program)(G:Nat)(s:Step)(F:Fr)(H:ah)(K:cm):Prop:=
 (s.want F=some false/\K (put F s.dst V.undef) H)\/(s.want F=some true/\match s.cop with
   |.call c g=>∃t args,g (vals c F)=some (t,args)/\dD P G t args H λv a=>K (put F s.dst v) a
   |.od x=>CD (x F) H λv a=>K (put F s.dst v) a
   |_=>∃b a,exec sB s F H=some (b,a)/\K b a)
def yw(s:Step)(F:Fr)(H:ah):Prop:=s.want F=some false\/(s.want F=some true/\∀a g,s.cop=.rd a g->∃v,g (vals a F) H=some v/\∀t,s.dst=some t->aY.nw V.undef (path t) F=v)
theorem VC{s:Step}(h:again s j b=true):yw s j b:=by
 unfold again at h;cases a:s.want j with
 |none=>rw[a]at h;cases h
 |some k=>
  cases k with
  |false=>exact .inl a
  |true=>
   refine .inr ⟨a,?_⟩;intro c g e;rw[a]at h
   have d:(match s.cop with
    |.rd c g=>Option.casesOn (motive:=λ_=>Bool) (g (vals c j) b) false (λv=>Option.casesOn (motive:=λ_=>Bool) s.dst true (λt=>uf 20 v (aY.nw V.undef (path t) j)))
    |_=>true)=true:=h
   rw[e]at d;cases f:g (vals c j) b with
   |none=>simp_all
   |some v=>
    refine⟨v,rfl,?_⟩;intro t i;simp only[f,i]at d
    grind [KC]
def g_(P:Program)(G:Nat):List dW->Fr->ah->(cm)->Prop
 |[],F,H,Q=>Q F H
 |.ex s::l,F,H,Q=>kq P G s F H λa b=>g_ P G l a b Q
 |.re s::l,F,H,Q=>yw s F H/\g_ P G l F H Q
variable{s:cm}
theorem kq.mono{P:Program}{o:Step}{r:cm}(h:∀j b,s j b->r j b)(p:kq P d o j b s):kq P d o j b r:=by
 rcases p with⟨n,c⟩|⟨n,c⟩
 .exact .inl ⟨n,h _ _ c⟩
 .refine .inr ⟨n,?_⟩;cases u:o.cop with
  |call q g=>rw[u]at c;obtain⟨t,args,f,l⟩:=c;exact⟨t,args,f,l.mono λ_ _=>h _ _⟩
  |od x=>rw[u]at c;obtain⟨e,m,since,left,v,A,w,f,l,g3,y,z⟩:=c;exact⟨e,m,since,left,v,A,w,f,l,g3,λi k x a e=>h _ _ (y i k x a e),λa=>h _ _ (z a)⟩
  |bad=>grind
  |pu q g=>grind
  |rd q g=>grind
  |hG q g=>grind
def g_.mono{P:Program}{Q:cm}(h:∀F H,Q F H->s F H):∀ {l:List dW}{F:Fr}{H:ah},g_ P a l F H Q->g_ P a l F H s:=by
 intro l;induction l with
 |nil=>exactλp=>h _ _ p
 |cons i l b=>
  intro F H p;cases i with
  |ex c=>exact kq.mono (λ_ _=>b) p
  |re c=>exact⟨p.1,b p.2⟩
def g_.app{P:Program}:∀ {l c:List dW}{F:Fr}{H:ah},g_ P a (l++c) F H s↔g_ P a l F H λd e=>g_ P a c d e s:=by
 intro l;induction l with
 |nil=>intro c F H;rfl
 |cons i l b=>
  intro c F H;cases i with
  |ex f=>exact⟨kq.mono λ_ _=>b.1,kq.mono λ_ _=>b.2⟩
  |re f=>exact⟨λp=>⟨p.1,b.1 p.2⟩,λp=>⟨p.1,b.2 p.2⟩⟩
def fw(ro:cq):Fence:= { Fence.wide with round:=ro }
section
variable {P:Program}{C:aL}{H H':ah}{w:World}{T:c6}{N:fh}{F F':Fr}{G:Nat}{cf:kW}{ro:cq}{nn:Nat}
theorem wv{b:f->Bool}{l:List f}:nC b l=true↔∀x∈l,b x=true:=by
 induction l with
 |nil=>simp[nC]
 |cons a l c=>
  have e:nC b (a::l)=and (b a) (nC b l):=rfl
  grind
theorem Ev(h:sC G a i=true):SL G a i:=by
 cases i with
 |tmp t=>exact(fV _ _).1 h
 |global g=>exact(fV _ _).1 h
 |_=>trivial
def arT{o:Oper}{a:Act}(h:oZ G a.tmps.size o=true)(b:jt C F a.tmps)(d:mq G C):kJ C F a.eval o.op.operands.toList:=by unfold oZ at h;rw[de]at h;intro x e f c;exact Ji b d (Ev (wv.1 h.2 x e)) c
theorem UN{d:Array Oper}{a:Act}(o:Oper)(i:nK d.toList o.guard F=some n)(v:∀j b t,o.guard=some (j,b)->v8 d.toList j=some t->t<a.tmps.size/\aP C (F.get V.undef t) (a.tmps.getD t undef)):
 Region.wanted o (yielded d a.tmps)=n:=by
 unfold nK at i;unfold Region.wanted;cases m:o.guard with
 |none=>grind
 |some s=>
  obtain⟨j,b⟩:=s;rw[m]at i
  have c:Option.casesOn (motive:=λ_=>Fr->Option Bool) (v8 d.toList j) (λ_=>some false)
   (λt F=>q8 b (aY.nw V.undef (path t) F)) F=some n:=i
  clear i;have g:=v j b;simp only[v8,iu]at c g;unfold yielded;cases f:d[j]? with
  |none=>
   have:d.toList[j]? =none:=by simpa using f
   rw[this]at c;cases c;simp[f]
  |some q=>
   have w:d.toList[j]? =some q:=by simpa using f
   rw[w]at c g;simp only[aq]at c g;cases l:q.dst with
   |none=>simp_all
   |some t=>
    rw[l]at c;obtain⟨p,h⟩:=g t m l;have e:a.tmps.getD t undef=a.tmps[t]:=by simp[p]
    have r:a.tmps[t]? =some a.tmps[t]:=by simp[p]
    rw[e]at h;simp only[f,Option.bind_some,l,r];have k:q8 b (F.get V.undef t)=some n:=c;generalize F.get V.undef t=u at h k
    generalize a.tmps[t]=y at h
    cases h<;>first|(cases k;done)|(cases k;rfl)|skip
    rename_i x;cases k;cases x<;>cases b<;>rfl
def awq{c:Array Oper}{a:Act}(h:∀o∈c.toList,Jd a.tmps.size o.dst=true)(k:jt C F a.tmps)(o:Oper)(l:nK c.toList o.guard F=some n):Region.wanted o (yielded c a.tmps)=n:=by refine UN (C:=C) o l (λj b t _ g=>?_);obtain⟨m,d,i⟩:=aB.1 (show aq (dw c.toList j) (λo=>o.dst)=some t from g);rw[iu]at d;have e:=h m (fL d);rw[i]at e;have f:t<a.tmps.size:=(fV _ _).1 e;exact⟨f,k t f⟩
def BH(a:Act)(d:cq)(v:Value):(a.put d v).tmps.size=a.tmps.size:=by cases d<;>simp[Act.put]
def put_defers(a:Act)(d:cq)(v:Value):(a.put d v).defers=a.defers:=by cases d<;>rfl
variable{A:FuncId}
def MF{args:Array Value}{R:Ending->World->Prop}(h:Calls P A args w R):CallsIn (fw ro) nn P A args w R:=by have b:=(callsIn_wide (n:=nn)).2 h;exact⟨trivial,λa c=>b.2 a (room_wide _)⟩
def atw{tmps:Array Value}{assign body:Code}{R:Ending->World->Prop}(h:RoundIn Fence.wide 0 P a A tmps assign body w R):RoundIn (fw ro) nn P a A tmps assign body w R:=⟨trivial,λc b _=>h.2 c b (room_wide _)⟩
def arI{b:Op}{x:Fr->V}(a:cop N T b=.od x):∃y,b=.next y false/\gQ y=some x:=by
 cases b<;>simp only[cop,reduceCtorEq]at a
 case next y d=>obtain⟨f,c,a⟩:=aB.1 (ew a aI);cases d<;>cases a;exact⟨y,rfl,c⟩
 case makeFunc f _ _=>cases f<;>simp only[reduceCtorEq]at a;exact dead a
 all_goals exact dead a
def x9{a:Op}(h:cop N T a≠ .bad):∀c,a≠ .defer c:=by rintro c rfl;exact h rfl
variable{m:Nat}{g:av}
theorem Sh:m∈qE d g↔m∈g/\m≠d:=by
 unfold qE;induction g with
 |nil=>simp[l9]
 |cons a g b=>
  have e:l9 (λm=> !(bt m d)) (a::g)=Bool.casesOn (motive:=λ_=>av) (!(bt a d)) (l9 (λm=> !(bt m d)) g) (a::l9 (λm=> !(bt m d)) g):=rfl;rw[e];by_cases h:a=d
  .simp_all
  .have:bt a d=false:=mo.2 (λe=>h ((beq_eq _ _).1 e));simp only[this,lS,jr,b]
   grind
theorem Qw{a:List (V×V)}{b:List MapEntry}(c:s7 C a b){e:MapEntry}(h:e∈b):∃i k v,a[i]? =some (k,v)/\e.born=i/\aP C k e.key/\aP C v e.val:=by
 obtain⟨i,hi,rfl⟩:=List.mem_iff_getElem.1 h;have hi':i<af a:=by rw[<-c.1];exact hi
 have d:a[i]? =some (a[i].1,a[i].2):=c4 hi';obtain⟨x,f,g,j,l⟩:=c.2 i _ _ d
 grind
variable{x:cq}
theorem arq(D:Rel C H w){p:Value}(hp:aP C (.ptr a 0) p){since:Nat}{left:av}(n:H.get a=.bW (.iter d since left x m)){f:List (V×V)}(M:H.get d=.bW (.map f))(X:TypeId):
 ∃v Y H' Z,(Instr.next p false X).run P w=.ok Y Z/\Ext C H w C H' Z/\aP C v Y/\((∃i k s,f[i]? =some (k,s)/\(i∈left\/since<=i)/\v=.aH [.bool true,k,s]/\H'=H.set a (.bW (.iter d since (qE i left) (some i) f.length)))\/
  ((∀i∈left,af f<=i)/\v=.aH [.bool false]/\H'=H)):=by
 cases hp with
 |ptr N=>
 rename_i l;obtain⟨a3,r,seen,J,K,g3,b2,L,a1⟩:=D.bW N n;obtain⟨_,q,g4,t⟩:=D.bW J M;have a9:=wS (P:=P) K rfl;have a':=wS (P:=P) g4 rfl;have a5:(!(⟨seen⟩:Array Nat).isEmpty&& !(⟨q⟩:Array MapEntry).isEmpty&&(⟨q⟩:Array MapEntry).all (λe=>decide (e.born≥m)))=false:=by
  cases seen with
  |nil=>simp
  |cons cd ss=>
   have hl:=g3 aI;cases q with
   |nil=>simp
   |cons e0 b1=>
    obtain⟨i,k,v,G,I,_⟩:=Qw t (e:=e0) aI;have h0:=t.1;cases f with
    |nil=>simp at h0
    |cons x0 xr=>
     obtain⟨k0,v0⟩:=x0;obtain⟨y,y1,_,_,ac⟩:=t.2 0 k0 v0 aI
     grind
 let E:=(⟨q⟩:Array MapEntry).filter λe=> !(⟨seen⟩:Array Nat).contains e.born
 let b:=E.filter (λe=>decide (e.born<since));let A:=E.filter (λe=>decide (e.born≥since));let g:Array (Option MapEntry):=(if b.isEmpty then #[none]else #[])++(b++A).map some;have Q:0<g.size:=by
  show 0<((if b.isEmpty then #[none]else #[])++(b++A).map some:Array (Option MapEntry)).size;by_cases h:b.isEmpty
  .simp[h];omega
  .have:0<b.size:=by
    rcases uB b.size with e|e
    .grind
    .exact e
   simp;omega
 obtain⟨j,F,u,bj,a4⟩:∃j F,j<g.size/\(∃k,F= { w with drawn:=w.drawn+k })/\(choose (.mapNext g.size)).run P w=.ok j F:=by
  by_cases hf:(Question.mapNext g.size).forced=true
  .exact⟨0,w,Q,⟨0,rfl⟩,by simp_all⟩
  .exact⟨_,w.drew,fD _ Q,⟨1,rfl⟩,by rw[run_choose_drew,ao hf];rfl⟩
 obtain⟨z,rfl⟩:=bj;have U:=D.drew z;have T:Ext C H w C H { w with drawn:=w.drawn+z }:=⟨U,aL.le_refl C,λe1 e2=>absurd (e1.symm.trans e2) aI,λ_ _ _=>rfl,aJ _,λ_ _=>rfl,aJ _,⟨rfl,rfl,rfl,λh=>h,λ_ cs _ _ h=>⟨cs,h,rfl⟩⟩,λ_ h=>⟨h,rfl⟩,λ_ _ e=>.inl e⟩;obtain⟨o,O⟩:∃o,g[j]? =some o:=⟨g[j],by simp[u]⟩
 have bi:(Instr.next (.pointer (some ⟨l.c,l.base+0,none⟩)) false X).run P w=(match(some o:Option (Option MapEntry))with
  |some (some e)=>(do setObj l.c (.mapIter (some r.c) since ((⟨seen⟩:Array Nat).push e.born) f.length);pure (.tuple #[.bool true,e.key,e.val]):Sem Value)
  |some none=>(pure (.tuple #[.bool false]):Sem Value)
  |none=>stuck "Next: no such candidate").run P { w with drawn:=w.drawn+z }:=by
  simp only[Instr.next,a3,dG,eE,a9,eO,a',a5,jk,if_false]
  show((choose (.mapNext g.size)).run P w).andThen _=_;rw[a4];simp only[eO]
  show(match g[j]? with
   |some (some e)=>(do setObj l.c (.mapIter (some r.c) since ((⟨seen⟩:Array Nat).push e.born) f.length);pure (.tuple #[.bool true,e.key,e.val]):Sem Value)
   |some none=>(pure (.tuple #[.bool false]):Sem Value)
   |none=>stuck "Next: no such candidate").run P { w with drawn:=w.drawn+z }=_
  rw[O]
 have a6:o∈g:=Array.mem_of_getElem? O;have R:o∈((if b.isEmpty then #[none]else #[])++(b++A).map some:Array (Option MapEntry)):=a6;cases o with
 |none=>
  have b':b.isEmpty=true:=by
   by_cases h:b.isEmpty
   .exact h
   .simp[h]at R
  refine⟨.aH [.bool false],.tuple #[.bool false],H,_,?_,T,.aH (.cons (.bool false) .nil),.inr ⟨?_,rfl,rfl⟩⟩
  .rw[bi];simp
  .intro i bc;obtain⟨ba,B⟩:=a1 i bc;refine k4 λbb=>?_
   obtain⟨s,y1,_,_,ac⟩:=t.2 i f[i].1 f[i].2 (c4 bb);have hx:s∈b:=by have bo:s∈q:=fL y1;show s∈(Array.filter _ (Array.filter _ ⟨q⟩));simp[bo,ac,B,ba]
   grind
 |some e=>
  have a7:e∈E:=by
   have n:e∈b\/e∈A:=by
    rcases Array.mem_append.1 R with h|h
    .simp_all
    .simpa using h
   rcases n with h|h
   .grind
   .grind
  have S:=Array.mem_filter.1 a7;obtain⟨i,k,v,G,I,f3,f4⟩:=Qw t (e:=e) (by simpa using S.1);have B:i∉seen:=by have:=S.2;simp[I]at this;exact this
  have aw:({ w with drawn:=w.drawn+z }:World).heap[l.c]? =some (.mapIter (some r.c) since ⟨seen⟩ m):=K;have ca:=J1 (P:=P) (o':=.mapIter (some r.c) since ((⟨seen⟩:Array Nat).push e.born) f.length) aw rfl;refine⟨.aH [.bool true,k,v],.tuple #[.bool true,e.key,e.val],_,_,?_,T.trans (zc U N n (o':=.iter d since (qE i left) (some i) f.length) (x:=.mapIter (some r.c) since ((⟨seen⟩:Array Nat).push e.born) f.length) ?_),.aH (.cons (.bool true) (.cons f3 (.cons f4 .nil))),.inl ⟨i,k,v,G,(if W:i<since then .inl (L i W B)else .inr (k4 W)),rfl,rfl⟩⟩
  .simp_all
  .refine⟨r,seen++[i],J,?_,λ_=>?_,aI,?_,?_⟩
   .grind [zM]
   .grind
   .intro j u bd;have n:j∉seen/\j≠i:=by simpa using bd
    exact Sh.2 ⟨L j u n.1,n.2⟩
   .intro j u;obtain⟨n,M⟩:=Sh.1 u;simp_all
variable{M:Exit->Act->World->Prop}
theorem T9{R:Array Oper}{o:Oper}(hi:R[d]? =some o)(hT:dH P T)(b_:kH P N){a:Act}
 (X:kJ C F a.eval o.op.operands.toList) (a2:∀ {wb:Bool},(stepOf N T R.toList o).want F=some wb->Region.wanted o (yielded R a.tmps)=wb) (E:Rel C H w) (hg:mq G C) (j:kq P G (stepOf N T R.toList o) F H s) {K:Act->World->Prop}
 (u:∀ {v:V}{z:Value}{D:aL}{Q:World}{H':ah},Ext C H w D H' Q->aP D v z->s (put F o.dst v) H'->K (a.put o.dst z) Q):wpOpIn (fw ro) nn P R M d K a w:=by
 have hA:∀f,a.eval (.func f)=.func (.func f) #[] #[]:=λf=>rfl
 unfold wpOpIn;simp only[hi];rcases j with⟨L,j⟩|⟨L,j⟩
 .have L:=a2 L;simp only[L,jk,if_false];exact⟨λ_ _=>trivial,u (Ext.refl E) (.aH .nil) j⟩
 .have bs:=L;have L:=a2 L;simp only[L,if_true];refine⟨λ_ _=>trivial,?_⟩;have bo:(stepOf N T R.toList o).cop=cop N T o.op:=rfl
  have ae:∀ {S:Fr}{A:ah},exec sB (stepOf N T R.toList o) F H=some (S,A)->(match cop N T o.op with
   |.bad=>aN
   |.pu q g=>aq (g (vals q F)) λr=>bh.casesOn (motive:=λ_=>Option (Fr×ah)) r (λv=>some (put F o.dst v,H)) (λcs sh=>some (put F o.dst (sh.mk H.ag),H.push (.cells cs 0)))
   |.rd q g=>aq (g (vals q F) H) λv=>some (put F o.dst v,H)
   |.hG q g=>aq (g (vals q F) H) λr=>some (put F o.dst r.1,r.2)
   |.call q g=>aq (g (vals q F)) λc=>aq (sB c.1 c.2 H) λr=>some (put F o.dst r.1,r.2)
   |.od _=>aN)=some (S,A):=by intro S A h;unfold exec at h;rw[bs]at h;exact h
  rw[bo]at j;cases i:cop N T o.op with
  |bad=>grind
  |pu q g=>
   rw[Oper.semAt_eq _ _ _ (x9 (N:=N) (T:=T) (by rw[i];simp))];rw[i]at j;obtain⟨S,A,O,n⟩:=j;have J:=ae O;clear O;rw[i]at J;obtain⟨r,Y,U⟩:=aB.1 J;have hp:=S7 hT b_ hA o i X Y w;cases r with
   |val v=>obtain⟨z,B,p⟩:=hp;cases U;rw[B];exact u (Ext.refl E) p n
   |new ce sh=>obtain⟨z,Q,cd,B,p,I⟩:=hp;cases U;rw[B];exact u (ajU E p) (I _ _ (aL.uK _ _ _)) n
  |rd q g=>rw[Oper.semAt_eq _ _ _ (x9 (N:=N) (T:=T) (by rw[i];simp))];rw[i]at j;obtain⟨S,A,O,n⟩:=j;have J:=ae O;clear O;rw[i]at J;obtain⟨v,Y,U⟩:=aB.1 J;cases U;obtain⟨z,B,p⟩:=Th hT E o i X Y;rw[B];exact u (Ext.refl E) p n
  |hG q g=>
   rw[Oper.semAt_eq _ _ _ (x9 (N:=N) (T:=T) (by rw[i];simp))];rw[i]at j;obtain⟨S,A,O,n⟩:=j;have J:=ae O;clear O;rw[i]at J;obtain⟨r,Y,U⟩:=aB.1 J;cases U;obtain⟨ek,z,Q,D,B,p,I,Z⟩:=ajt hT E o i X Y;rw[B];rcases p with rfl|⟨rfl,rfl⟩
   .exact u I Z n
   .exact u I Z n
  |call q g=>
   rw[Oper.semAt_eq _ _ _ (x9 (N:=N) (T:=T) (by rw[i];simp))];rw[i]at j;obtain⟨t,args,B,n⟩:=j;have ar:=W1 (P:=P) (w:=w) hA o i X B;cases t with
   |fn f=>obtain⟨a7,p,I⟩:=ar n.1;rw[p];refine⟨λh=>by simp[fw,Fence.wide]at h,MF ((n.2 _ _ _ E hg I).mono ?_)⟩;rintro e Q ⟨v,z,A,D,rfl,W,h7,h8⟩;exact u W h7 h8
   |jZ b=>obtain⟨l,a7,hl,p,I⟩:=ar;obtain⟨f,tmps,assign,body,Z,W⟩:=n _ _ _ _ E hg I hl;rw[p,Z];refine⟨λh=>by simp[fw,Fence.wide]at h,atw (W.mono ?_)⟩;rintro e Q ⟨v,z,A,D,rfl,W,h7,h8⟩;exact u W h7 h8
  |od x=>
   rw[Oper.semAt_eq _ _ _ (x9 (N:=N) (T:=T) (by rw[i];simp))];rw[i]at j;obtain⟨b,m,since,left,b',cb,es,g1,g2,g3,g4,bi⟩:=j;obtain⟨y,hy,bv⟩:=arI i;obtain⟨a9,cf,ty,b1,after,guard⟩:=o;simp only at hy;subst hy;have hv:=X y (by simp[Op.operands]) x bv;rw[g1]at hv;obtain⟨v,z,A,Q,f1,f2,f3,f4⟩:=arq (P:=P) E hv g2 g3 ty;have bj:(execOp a.eval ⟨a9,.next y false,ty,b1,after,guard⟩).run P w=.ok (.value z) Q:=by simp only[execOp,eE,f1,eO,gl]
   rw[bj];rcases f4 with⟨i',k,x',e1,e2,rfl,rfl⟩|⟨e1,rfl,rfl⟩
   .exact u f2 f3 (g4 i' k x' e1 e2)
   .exact u f2 f3 (bi e1)
theorem au2{b:Array Oper}{o:Oper}(hi:b[d]? =some o)(hT:dH P T)(b_:kH P N){a:Act}
 (j:∀o∈b.toList,oZ G a.tmps.size o=true) (t:Rel C H w) (f:jt C F a.tmps) (i:mq G C) (p:kq P G (stepOf N T b.toList o) F H s) {K:Act->World->Prop}
 (n:∀D c e F' H',Ext C H w D H' e->jt D F' c.tmps->c.tmps.size=a.tmps.size->c.defers=a.defers->s F' H'->K c e):wpOpIn (fw ro) nn P b M d K a w:=by
 have q:o∈b.toList:=fL (by simpa using hi);have r:=arT (j o q) f i;have u:∀ {k:Bool},(stepOf N T b.toList o).want F=some k->Region.wanted o (yielded b a.tmps)=k:=λh=>awq (λo h=>by have:=j o h;unfold oZ at this;grind) f o h
 refine T9 hi hT b_ r u t i p ?_;intro v x D e H' g l m;exact n D _ e _ H' g ((f.mono g.le).put l) (BH _ _ _) (put_defers _ _ _) m
theorem asa{c:Array Oper}{Q:Exit->Act->World->Prop}(hT:dH P T)(b_:kH P N)(O:∀o∈c.toList,oZ G d o=true):
 ∀(l:List Oper) (k:Nat) (C:aL) (F:Fr) (H:ah) (a:Act) (w:World),(∀(j:Nat) (o:Oper),l[j]? =some o->c[k+j]? =some o)->a.tmps.size=d->Rel C H w->jt C F a.tmps->mq G C->
  g_ P G (lmap (λo=>dW.ex (stepOf N T c.toList o)) l) F H s->
  (∀D b f F' H',Ext C H w D H' f->jt D F' b.tmps->b.tmps.size=d->b.defers=a.defers->s F' H'->Q .normal b f)->wpOpsIn (fw ro) nn P c Q (List.range' k l.length) a w:=by
 intro l;induction l with
 |nil=>intro k C F H a w _ e r p q h n;exact n C a w F H (Ext.refl r) p e rfl h
 |cons o l R=>
  intro k C F H a w hl e r p q h n;have L:kq P G (stepOf N T c.toList o) F H λg i=>g_ P G (lmap (λo=>dW.ex (stepOf N T c.toList o)) l) g i s:=h
  rw[dZ,List.range'_succ,wpOpsIn_cons];refine au2 (hl 0 o aI) hT b_ (by rw[e];exact O) r p q L ?_;intro D b f g i m x y z A;refine R (k+1) D g i b f (λj S M=>by have:=hl (j+1) S (by simpa using M);grind) (y.trans e) m.rel x (q.mono m.le) A ?_;intro V v U t u B E I J K;exact n V v U t u (m.trans B) E I (J.trans z) K
end
def Ix(m i:Nat):jK m i=m.testBit i:=by unfold jK;rw[Nat.testBit_eq_decide_div_mod_eq,Bool.eq_iff_iff,beq_eq];have:Nat.shiftRight m i=m/2^i:=Nat.shiftRight_eq_div_pow m i;rw[this];simp;exact Iff.rfl
theorem alE(a b i:Nat):jK (Nat.lor a b) i=true↔jK a i=true\/jK b i=true:=by simp_all [Ix,Nat.testBit_or,vE]
theorem alF(k i:Nat):jK (Nat.shiftLeft 1 k) i=true↔k=i:=by simp_all [Nat.one_shiftLeft,Ix,Nat.testBit_two_pow]
theorem Rg(i:Nat):jK 0 i=false:=by rw[Ix];simp
theorem aqG(a:av)(b:List Edge)(j:Nat):jK (sA a b) j=true↔∃e∈b,lV e=true/\(e.on=j\/jK (tO 0 a e.on) j=true):=by
 induction b with
 |nil=>
  have:sA a []=0:=rfl
  grind [Rg]
 |cons e b d=>
  have h:sA a (e::b)=Bool.casesOn (motive:=λ_=>Nat) (lV e) (sA a b) (Nat.lor (sA a b) (Nat.lor (Nat.shiftLeft 1 e.on) (tO 0 a e.on))):=rfl;rw[h];cases c:lV e with
  |false=>grind
  |true=>grind [alE,alF]
theorem aqH:∀(ops:List Oper) (a:av),af (masks ops a)=af a+af ops/\(∀i,i<af a->(masks ops a)[i]? =a[i]?)/\
 ∀(j:Nat) (o:Oper),ops[j]? =some o->(masks ops a)[af a+j]? =some (sA ((masks ops a).take (af a+j)) o.after.toList):=by
 intro ops;induction ops with
 |nil=>
  intro a;have e:masks [] a=a:=rfl
  grind
 |cons o ops g=>
  intro a;have e:masks (o::ops) a=masks ops (dJ a [sA a o.after.toList]):=rfl;rw[e,iW];obtain⟨b,d,f⟩:=g (a++[sA a o.after.toList]);have hl:af (a++[sA a o.after.toList])=af a+1:=aI;rw[hl]at b d f;refine⟨by simp[b];omega,λi hi=>by grind,λj k c=>?_⟩;cases j with
  |zero=>
   simp at c;subst c;have h:(masks ops (a++[sA a o.after.toList])).take (af a+0)=a:=by
    apply oC;intro i;by_cases hi:i<af a
    .grind
    .grind
   grind
  |succ j=>grind
def maskAt(ops:List Oper)(i:Nat):Nat:=tO 0 (masks ops []) i
def Pred(ops:List Oper)(i j:Nat):Prop:=jK (maskAt ops i) j=true
theorem ajn:∀ {ops:List Oper}{k:Nat},n5 ops k=true->∀(j:Nat) (o:Oper),ops[j]? =some o->∀e∈o.after.toList,lV e=true->e.on<k+j:=by
 intro ops;induction ops with
 |nil=>grind
 |cons o ops f=>
  intro k h j g b e c d;have a:and (nC (λe=>or (!(lV e)) (b6 (Nat.succ e.on) k)) o.after.toList) (n5 ops (k+1))=true:=h;rw[de]at a;cases j with
  |zero=>simp at b;subst b;have:=wv.1 a.1 e c;simp_all;omega
  |succ j=>grind
section
variable {ops:List Oper} (hE:n5 ops 0=true)
include hE
theorem AW{i:Nat}{o:Oper}(hi:ops[i]? =some o){e:Edge}(b:e∈o.after.toList)(a:lV e=true):e.on<i:=by have:=ajn hE i o hi e b a;omega
theorem Jz:Pred ops a d↔∃o,ops[a]? =some o/\∃e∈o.after.toList,lV e=true/\(e.on=d\/Pred ops e.on d):=by
 obtain⟨c,f,b⟩:=aqH ops [];simp only[p5,eW]at c b;unfold Pred maskAt;rw[Ef];cases hi:ops[a]? with
 |none=>grind [List.getElem?_eq_none_iff,Rg]
 |some o=>
  rw[b a o hi];simp only[Option.getD_some,aqG,Option.some.injEq,exists_eq_left']
  grind [AW,Ef,List.getElem?_take_of_lt]
theorem pred_lt:∀ {i j:Nat},Pred ops i j->j<i:=by
 intro i;induction i using j3 with
 |_ i a=>grind [Jz,AW]
theorem JA:∀ {i j k:Nat},Pred ops i j->Pred ops j k->Pred ops i k:=by
 intro i;induction i using j3 with
 |_ i a=>grind [Jz,AW]
def FB(ops:List Oper)(L:Nat->Prop):Prop:=∀i o,L i->ops[i]? =some o->∀e∈o.after.toList,lV e=true->L e.on
omit hE in
def Gx(hE:n5 ops 0=true){L:Nat->Prop}(d:FB ops L):∀ {i j:Nat},(∀o,ops[i]? =some o->∀e∈o.after.toList,lV e=true->L e.on)->Pred ops i j->L j:=by
 intro i;induction i using j3 with
 |_ i n=>
  intro j m h;obtain⟨o,hi,e,b,a,h⟩:=(Jz hE).1 h;have k:=AW hE hi b a;have hl:=m o hi e b a;rcases h with h|h
  .rw[<-h];exact hl
  .exact n _ k (λp l c g f=>d _ p hl l c g f) h
end
section
variable {N:fh}{T:c6}
theorem arR{c:Fr}:∀ {l:List Operand}{b:List (Fr->V)},jA l=some b->(∀t,Operand.tmp t∈l->c.get V.undef t=j.get V.undef t)->vals b c=vals b j:=by
 intro l;induction l with
 |nil=>intro b h _;cases h;rfl
 |cons x l m=>
  intro b h d;obtain⟨f,a,h⟩:=aB.1 (show aq (gQ x) (λf=>aq (jA l) λr=>some (f::r))=some b from h);obtain⟨r,i,h⟩:=aB.1 h;cases h;have e:f c=f j:=by
   cases x with
   |tmp t=>cases a;exact d t aI
   |const v=>obtain⟨y,k,a⟩:=aB.1 (show aq (ow 20 v) (λy=>some (λ_=>y))=some f from a);cases a;rfl
   |global g=>cases a;rfl
   |func g=>cases a;rfl
  show f c::vals r c=f j::vals r j
  grind
def wJ{f:Fr->V}(h:gQ i=some f):jA [i]=some [f]:=by show aq (gQ i) _=_;rw[h];rfl
def Looks(a:Op)(b:List (Fr->V)):Prop:=∃l,jA l=some b/\∀x∈l,x∈a.operands.toList
variable{K:au->Option bh}
theorem Wd{b:BinOp}{a:List (Fr->V)}(h:yS T b e t=.pu a K):a=t:=by
 unfold yS at h
 grind
theorem XQ{d:TypeId}{a:List (Fr->V)}(h:tB T e d t=.pu a K):a=t:=by
 unfold tB at h
 grind
theorem WL{b:Builtin}{e:List TypeId}{c:List (Fr->V)}(h:CY T b e t=.pu c K):c=t:=by
 have a:=ew h aI;obtain⟨j,g,a⟩:=aB.1 a;obtain⟨d,f,a⟩:=aB.1 a;cases b<;>simp only[reduceCtorEq]at a
 case append=>
  split at a
  .obtain⟨i,_,a⟩:=aB.1 a;obtain⟨z,_,a⟩:=aB.1 a;obtain⟨k,_,a⟩:=aB.1 a;obtain⟨_,a⟩:=dA.1 a;cases z
   .cases a
   .cases a;rfl
  .cases a
 case copy=>
  split at a
  .obtain⟨s,_,a⟩:=aB.1 a;cases a
  .cases a
 case cap=>grind
 case len=>grind
 case max=>cases a;rfl
 grind
def zL{r:Op}(a:cop N T r=.pu t K):Looks r t:=by
 cases r<;>simp only[cop,reduceCtorEq]at a
 case move x|box j x|nilCheck x|extract x i=>obtain⟨f,e,a⟩:=aB.1 (ew a aI);cases a;exact⟨_,wJ e,by simp[Op.operands]⟩
 case pick c x y=>obtain⟨k,e,a⟩:=aB.1 (ew a aI);cases a;exact⟨_,e,by simp[Op.operands]⟩
 case alloc j=>obtain⟨z,w,a⟩:=aB.1 (ew a aI);cases a;exact⟨[],rfl,aI⟩
 case build j parts=>
  have h:=ew a aI;obtain⟨z,w,h⟩:=aB.1 h;obtain⟨d,o,h⟩:=aB.1 h;split at h
  .obtain⟨P,M,h⟩:=aB.1 h;obtain⟨q,u,h⟩:=aB.1 h;cases h;exact⟨_,(zK u).2.2,by simp[Op.operands]⟩
  .obtain⟨s,v,h⟩:=aB.1 h;obtain⟨q,u,h⟩:=aB.1 h;cases h;exact⟨_,(zK u).2.2,by simp[Op.operands]⟩
  .cases h
 case buildSlice j n parts=>
  have h:=ew a aI;obtain⟨d,o,h⟩:=aB.1 h;split at h
  .obtain⟨s,v,h⟩:=aB.1 h;obtain⟨J,h⟩:=dA.1 h;obtain⟨z,w,h⟩:=aB.1 h;obtain⟨q,u,h⟩:=aB.1 h;obtain⟨O,h⟩:=dA.1 h;cases h;exact⟨_,(zK u).2.2,by simp[Op.operands]⟩
  .cases h
 case binOp r j x y Q=>obtain⟨k,e,a⟩:=aB.1 (ew a aI);rw[Wd (Option.some.inj a)];exact⟨_,e,by simp[Op.operands]⟩
 case unOp r j x=>
  obtain⟨f,e,a⟩:=aB.1 (ew a aI);cases r<;>simp only[reduceCtorEq]at a
  all_goals
   cases a;exact⟨_,wJ e,by simp[Op.operands]⟩
 case convert s d x=>obtain⟨f,e,a⟩:=aB.1 (ew a aI);rw[XQ (Option.some.inj a)];exact⟨_,wJ e,by simp[Op.operands]⟩
 case makeFunc fn first captured=>cases fn<;>simp only[reduceCtorEq]at a;obtain⟨k,e,a⟩:=aB.1 (ew a aI);cases a;exact⟨_,e,by rw[iW];simp[Op.operands]⟩
 case makeSlice j l c=>
  obtain⟨k,e,a⟩:=aB.1 (ew a aI);obtain⟨d,o,a⟩:=aB.1 a;split at a
  .obtain⟨i,hi,a⟩:=aB.1 a;obtain⟨z,w,a⟩:=aB.1 a;obtain⟨v,a⟩:=dA.1 a;cases a;exact⟨_,e,by simp[Op.operands]⟩
  .cases a
 case slice j x lo hi mx=>
  obtain⟨k,e,a⟩:=aB.1 (ew a aI);obtain⟨d,o,a⟩:=aB.1 a;have hl:∀y∈x::dJ (lp lo) (dJ (lp hi) (lp mx)),y∈(Op.slice j x lo hi mx).operands.toList:=by cases lo<;>cases hi<;>cases mx<;>simp[Op.operands,lp,iW]
  split at a
  .cases a;exact⟨_,e,hl⟩
  .obtain⟨s,v,a⟩:=aB.1 a;cases a;exact⟨_,e,hl⟩
  .obtain⟨s,v,a⟩:=aB.1 a;cases a;exact⟨_,e,hl⟩
  .cases a
 case fieldAddr s x f=>
  obtain⟨p,e,a⟩:=aB.1 (ew a aI);obtain⟨d,o,a⟩:=aB.1 a;split at a
  .obtain⟨fd,B,a⟩:=aB.1 a;obtain⟨n,C,a⟩:=aB.1 a;obtain⟨w,a⟩:=dA.1 a;cases a;exact⟨_,wJ e,by simp[Op.operands]⟩
  .cases a
 case field s x f=>
  obtain⟨p,e,a⟩:=aB.1 (ew a aI);obtain⟨d,o,a⟩:=aB.1 a;split at a
  .obtain⟨fd,B,a⟩:=aB.1 a;obtain⟨n,C,a⟩:=aB.1 a;obtain⟨K,H,a⟩:=aB.1 a;cases a;exact⟨_,wJ e,by simp[Op.operands]⟩
  .cases a
 case indexAddr j x i=>
  obtain⟨k,e,a⟩:=aB.1 (ew a aI);obtain⟨d,o,a⟩:=aB.1 a;split at a
  rotate_right
  .cases a
  all_goals
   obtain⟨s,v,a⟩:=aB.1 a;cases a;exact⟨_,e,by simp[Op.operands]⟩
 case index j x i=>
  obtain⟨k,e,a⟩:=aB.1 (ew a aI);obtain⟨d,o,a⟩:=aB.1 a;split at a
  .cases a;exact⟨_,e,by simp[Op.operands]⟩
  .cases a
 case call c=>
  obtain⟨callee,args,E⟩:=c;have g:=ew a aI;clear a;have hl:∀y∈args.toList,y∈(Op.call ⟨callee,args,E⟩).operands.toList:=by intro y D;simp[Op.operands,Call.operands];exact .inr (by simpa using D)
  cases callee with
  |value x=>
   cases x<;>simp only[]at g
   case func f=>
    obtain⟨fn,G,g⟩:=aB.1 g;obtain⟨k,e,g⟩:=aB.1 g;cases A:fn.body with
    |some c=>simp_all
    |none=>rw[A]at g;obtain⟨L,g⟩:=dA.1 g;obtain⟨F,I,g⟩:=aB.1 g;cases g;exact⟨_,e,hl⟩
   all_goals exact dead g
  |invoke x m=>cases g
  |builtin b=>obtain⟨k,e,g⟩:=aB.1 g;rw[WL (Option.some.inj g)];exact⟨_,e,hl⟩
 all_goals exact dead a
end
section
variable {N:fh}{T:c6}
theorem Tg{q:Op}{g:au->ah->Option V}(b:cop N T q=.rd t g):
 ∃l,jA l=some t/\(∀x∈l,x∈q.operands.toList)/\((∃o n,g=jd o n)\/g=vt\/(∃f z p,g=wD f z p)\/g=wA\/g=uS):=by
 cases q<;>simp only[cop,reduceCtorEq]at b
 case load r a=>obtain⟨f,j,b⟩:=aB.1 (ew b aI);obtain⟨o,y,b⟩:=aB.1 b;obtain⟨n,A,b⟩:=aB.1 b;cases b;exact⟨[a],wJ j,by simp[Op.operands],.inl ⟨o,n,rfl⟩⟩
 case convert s d x=>
  obtain⟨f,j,b⟩:=aB.1 (ew b aI);have k:tB T s d [f]=.rd t g:=Option.some.inj b;unfold tB at k;split at k<;>first|(cases k;done)|skip
  .grind
  .split at k
   .cases k;exact⟨[x],wJ j,by simp[Op.operands],.inr (.inl rfl)⟩
   .cases k
 case call c=>
  obtain⟨callee,C,D⟩:=c;have h:=ew b aI;clear b;cases callee with
  |value x=>cases x<;>simp only[]at h<;>exact dead h
  |invoke x m=>cases h
  |builtin bi=>
   obtain⟨u,v,h⟩:=aB.1 h;have e:=ew (Option.some.inj h) aI;clear h;obtain⟨r,B,e⟩:=aB.1 e;obtain⟨d,w,e⟩:=aB.1 e;cases bi<;>simp only[reduceCtorEq]at e
   case len=>cases d<;>simp only[reduceCtorEq,Option.some.injEq,cl.rd.injEq]at e;obtain⟨rfl,rfl⟩:=e;exact⟨_,v,by simp[Op.operands,Call.operands],.inr (.inr (.inr (.inl rfl)))⟩
   all_goals exact dead e
 case lookup r x i p=>obtain⟨u,j,b⟩:=aB.1 (ew b aI);obtain⟨d,_,b⟩:=aB.1 b;cases d<;>simp only[reduceCtorEq]at b;obtain⟨f,_,b⟩:=aB.1 b;obtain⟨_,_,b⟩:=aB.1 b;obtain⟨_,_,b⟩:=aB.1 b;obtain⟨z,_,b⟩:=aB.1 b;cases b;exact⟨_,j,by simp[Op.operands],.inr (.inr (.inl ⟨f,z,p,rfl⟩))⟩
 case entry x=>obtain⟨f,j,b⟩:=aB.1 (ew b aI);cases b;exact⟨[x],wJ j,by simp[Op.operands],.inr (.inr (.inr (.inr rfl)))⟩
 case makeFunc f _ _=>cases f<;>simp only[reduceCtorEq]at b;exact dead b
 all_goals exact dead b
def JK{a:Op}{g:au->ah->Option V}(d:cop N T a=.rd t g):Looks a t:=by obtain⟨l,b,c,_⟩:=Tg d;exact⟨l,b,c⟩
def MK(p:∀d,b.ag<=d->b.get d=.none){f:dU}(h:b.cells? d=some c):(b.push f).cells? d=some c:=by
 obtain⟨g,i,n⟩:=cells?_some h;have o:∀ {x:Nat},b.get x≠ .none->b.ag≠x:=λ{x} q e=>q (p x aa)
 have l:(b.push f).get d=.cells c g:=by rw[ah.bl,ao (o (by rw[i];simp))];exact i
 have m:(b.push f).gr d g=true:=by
  rcases gJ.1 n with e|⟨a,j,e,k⟩
  .exact gJ.2 (.inl e)
  .exact gJ.2 (.inr ⟨a,j,by simp_all [ah.bl,ao],k⟩)
 unfold ah.cells?;rw[l];show aX ((b.push f).gr d g) (some c)=some c;rw[m];rfl
theorem as2{F:Op}{g:au->ah->Option V}(C:cop N T F=.rd t g)(u:∀a,b.ag<=a->b.get a=.none){l:dU}{v:V}(h:g c b=some v):g c (b.push l)=some v:=by
 obtain⟨_,_,_,B⟩:=Tg C;have D:∀ {x:Nat},b.get x≠ .none->b.ag≠x:=λ{x} E e=>E (u x aa)
 have G:∀ {a:Nat}{d:List (V×V)},b.j9 a=some d->(b.push l).j9 a=some d:=by intro a d h;have i:=IX h;unfold ah.j9;simp_all [ah.bl,ao]
 have b_:∀ {a o n:Nat}{w:au},b.dz a o n=some w->(b.push l).dz a o n=some w:=by intro a o n w h;obtain⟨j,i,r⟩:=aB.1 h;exact aB.2 ⟨j,MK u i,r⟩
 have i:∀ {a o:Nat}{v:V},b.load a o=some v->(b.push l).load a o=some v:=by intro a o v h;obtain⟨j,i,r⟩:=aB.1 h;exact aB.2 ⟨j,MK u i,r⟩
 rcases B with⟨A,n,rfl⟩|rfl|⟨f,z,I,rfl⟩|rfl|rfl
 .unfold jd at h⊢;split at h
  .cases A with
   |false=>exact i h
   |true=>
    obtain⟨j,p,k⟩:=aB.1 h
    grind
  .exact h
  .cases h
 .unfold vt at h⊢;split at h
  .exact h
  .exact h
  .obtain⟨j,p,k⟩:=aB.1 h
   grind
  .exact h
  .cases h
 .unfold wD at h⊢;split at h
  .obtain⟨q,p,h⟩:=aB.1 h;refine aB.2 ⟨q,p,?_⟩;split at h
   .exact h
   .obtain⟨d,k,h⟩:=aB.1 h
    grind
   .cases h
  .cases h
 .unfold wA at h⊢;split at h
  .exact h
  .obtain⟨d,k,h⟩:=aB.1 h
   grind
  .cases h
 .unfold uS at h⊢;split at h
  .split at h
   .rename_i a m s seen H y;rw[ah.bl,ao (D (by rw[y];simp)),y];obtain⟨d,k,h⟩:=aB.1 h
    grind
   .cases h
  .cases h
end
section
variable {N:fh}{T:c6}{ol:List Oper}{B:Nat}
def mB(N:fh)(T:c6)(ol:List Oper)(B:Nat)(o:Oper)(F:Fr)(H:ah)(C:aL):Prop:=
 ∃t,o.dst=some t/\
 ((nK ol o.guard F=some false/\F.get V.undef t=V.undef)\/
  (nK ol o.guard F=some true/\∃a g r,cop N T o.op=.pu a g/\g (vals a F)=some r/\
    ((∃v,r=.val v/\F.get V.undef t=v)\/(∃b c id,r=.new b c/\F.get V.undef t=c.mk id/\H.get id=.cells b 0/\C id=none/\id<H.ag/\B<=id)))\/
  (nK ol o.guard F=some true/\∃a g,cop N T o.op=.rd a g/\g (vals a F) H=some (F.get V.undef t)))
theorem apN{b:f->Bool}{l:List f}:Ba b l=true↔∃x∈l,b x=true:=by
 induction l with
 |nil=>simp[Ba]
 |cons a l c=>
  have e:Ba b (a::l)=or (b a) (Ba b l):=rfl
  grind
variable{x:cq}
def ya:Et a x=true↔x=some a:=by
 cases x with
 |none=>simp[Et]
 |some u=>exact⟨λh=>by rw[(beq_eq _ _).1 h],λh=>by cases h;exact(beq_eq _ _).2 rfl⟩
theorem Tk{o:Oper}(h:Operand.tmp a∈o.op.operands.toList):reads ol o a=true:=by unfold reads;rw[vE];exact .inl (apN.2 ⟨_,h,(beq_eq _ _).2 rfl⟩)
theorem w4{o:Oper}{a:Fr}(h:∀t,reads ol o t=true->a.get V.undef t=j.get V.undef t):nK ol o.guard a=nK ol o.guard j:=by
 unfold nK;cases f:o.guard with
 |none=>rfl
 |some c=>
  obtain⟨g,b⟩:=c;simp only[];cases d:v8 ol g with
  |none=>rfl
  |some t=>
   have:reads ol o t=true:=by unfold reads;rw[vE,f];exact .inr (by simp only[d];exact ya.2 rfl)
   have e:aY.nw V.undef (path t) a=aY.nw V.undef (path t) j:=h t this
   dsimp only
   rw[e]
theorem vc{o:Oper}(hl:Looks o.op t){b:Fr}(h:∀a,reads ol o a=true->b.get V.undef a=j.get V.undef a):vals t b=vals t j:=by
 obtain⟨l,c,d⟩:=hl
 grind [arR,Tk]
theorem mB.keep{a:Oper}{e:Fr}{H':ah}{D:aL}(i:mB N T ol B a j b o)(n:∀t,mN ol a t=true->e.get V.undef t=j.get V.undef t)
 (w:∀id l,b.get id=.cells l 0->o id=none->id<b.ag->H'.get id=.cells l 0/\D id=none/\id<H'.ag)
 (x:∀c g v,cop N T a.op=.rd c g->nK ol a.guard j=some true->g (vals c j) b=some v->j.get V.undef (a.dst.getD 0)=v->g (vals c j) H'=some v):mB N T ol B a e H' D:=by
 obtain⟨t,p,i⟩:=i;have k:∀t,reads ol a t=true->e.get V.undef t=j.get V.undef t:=λt h=>n t (by unfold mN;rw[h];simp)
 have s:e.get V.undef t=j.get V.undef t:=n t (by unfold mN;rw[ya.2 p];rfl);have q:=w4 k;refine⟨t,p,?_⟩;rcases i with⟨f,d⟩|⟨f,c,g,r,d,m,u⟩|⟨f,c,g,d,m⟩
 .grind
 .refine .inr (.inl ⟨q.trans f,c,g,r,d,?_,?_⟩)
  .rw[vc (zL d) k];exact m
  grind
 .refine .inr (.inr ⟨q.trans f,c,g,d,?_⟩);rw[vc (JK d) k,s]
  grind
def qt(F:Fr)(t u:Nat)(v:V):(put F (some t) v).get V.undef u=if t=u then v else F.get V.undef u:=aY.aT V.undef F t u v
theorem mB.first{cf:kW}{o:Oper}(y:o.dst=some a)(s:su (cop N T o.op)=false)(J:reads ol o a=false){m:Fr}{C:aL}(K:∀D,b.ag<=D->C D=none)(G:B<=b.ag)
 (h:exec cf (stepOf N T ol o) j b=some (m,I)):
 mB N T ol B o m I C/\(∀u,u≠a->m.get V.undef u=j.get V.undef u)/\(I=b\/∃i,I=b.push (.cells i 0))/\(∀d g i k,nK ol o.guard m=some true->cop N T o.op=.pu d g->g (vals d m)=some (.new i k)->m.get V.undef a=Shape.mk k b.ag):=by
 unfold exec at h;have l:∀ {v:V} u,reads ol o u=true->(put j (some a) v).get V.undef u=j.get V.undef u:=by intro v u t;rw[qt,ao];intro e;subst e;rw[J]at t;cases t
 have H:(stepOf N T ol o).dst=some a:=y;rw[H]at h;have L:(stepOf N T ol o).want j=nK ol o.guard j:=rfl;rw[L]at h;cases n:nK ol o.guard j with
 |none=>rw[n]at h;cases h
 |some M=>
 cases M with
 |false=>rw[n]at h;cases h;exact⟨⟨a,y,.inl ⟨(w4 l).trans n,by rw[qt,ay rfl]⟩⟩,λu t=>by simp_all [qt,ao];omega,.inl rfl,λd g i k P _ _=>by grind [w4]⟩
 |true=>
  rw[n]at h
  have p:(match cop N T o.op with
   |.bad=>aN
   |.pu d g=>aq (g (vals d j)) λr=>bh.casesOn (motive:=λ_=>Option (Fr×ah)) r (λv=>some (put j (some a) v,b)) (λi k=>some (put j (some a) (k.mk b.ag),b.push (.cells i 0)))
   |.rd d g=>aq (g (vals d j) b) λv=>some (put j (some a) v,b)
   |.hG d g=>aq (g (vals d j) b) λr=>some (put j (some a) r.1,r.2)
   |.call d g=>aq (g (vals d j)) λc=>aq (cf c.1 c.2 b) λr=>some (put j (some a) r.1,r.2)
   |.od _=>aN)=some (m,I):=h
  cases f:cop N T o.op with
  |bad=>rw[f]at p;cases p
  |hG d g=>rw[f]at s;cases s
  |call d g=>rw[f]at s;cases s
  |od x=>rw[f]at s;cases s
  |pu d g=>
   rw[f]at p;obtain⟨r,q,A⟩:=aB.1 p;cases r with
   |val v=>cases A;refine⟨⟨a,y,.inr (.inl ⟨(w4 l).trans n,d,g,.val v,f,by rw[vc (zL f) l];exact q,.inl ⟨v,rfl,by rw[qt,ay rfl]⟩⟩)⟩,λu t=>by simp_all [qt,ao];omega,.inl rfl,λF E i k _ w z=>by cases w;rw[vc (zL f) l,q]at z;cases z⟩
   |new i k=>
    cases A
    refine⟨⟨a,y,.inr (.inl ⟨(w4 l).trans n,d,g,.new i k,f,by rw[vc (zL f) l];exact q,.inr ⟨i,k,b.ag,rfl,by rw[qt,ay rfl],by rw[ah.bl,ay rfl],K _ (aJ _),by show b.ag<b.ag+1;omega,G⟩⟩)⟩,
     λu t=>by simp_all [qt,ao];omega,.inr ⟨i,rfl⟩,λF E O Q _ w z=>by cases w;rw[vc (zL f) l,q]at z;simp_all [qt,ay]⟩
  |rd d g=>rw[f]at p;obtain⟨v,q,A⟩:=aB.1 p;cases A;refine⟨⟨a,y,.inr (.inr ⟨(w4 l).trans n,d,g,f,by rw[vc (JK f) l,qt,ay rfl];exact q⟩)⟩,λu t=>by simp_all [qt,ao];omega,.inl rfl,λF E i k _ w _=>by cases w⟩
end
section
variable {N:fh}{T:c6}{ol:List Oper}{B:Nat}{cf:kW}
def Rel.alZ(c:Rel o b r):∀a,b.ag<=a->b.get a=.none:=λ_ h=>(c.top h).2
def uE(N:fh)(T:c6)(ol:List Oper)(o:Oper)(F:Fr)(id:Nat):Prop:=∃t b g c a,o.dst=some t/\nK ol o.guard F=some true/\cop N T o.op=.pu b g/\g (vals b F)=some (.new c a)/\F.get V.undef t=Shape.mk a id
def Cy(N:fh)(T:c6)(ol:List Oper)(D:Oper->Prop)(F:Fr):Prop:=∀x y,D x->D y->∀id,uE N T ol x F id->uE N T ol y F id->x=y
theorem mk_inj{s b:Shape}{a:Nat}(h:s.mk a=b.mk d):a=d:=by cases s<;>cases b<;>simp only[Shape.mk]at h<;>cases h<;>rfl
def uE.congr{o:Oper}{a:Fr}{id:Nat}(h:uE N T ol o a id)(d:∀t,mN ol o t=true->a.get V.undef t=j.get V.undef t):uE N T ol o j id:=by
 obtain⟨t,p,g,f,n,b,i,c,k,l⟩:=h;have e:∀t,reads ol o t=true->a.get V.undef t=j.get V.undef t:=λt h=>d t (by unfold mN;rw[h];simp)
 have m:a.get V.undef t=j.get V.undef t:=d t (by unfold mN;rw[ya.2 b];rfl);refine⟨t,p,g,f,n,b,(w4 e).symm.trans i,c,?_,m.symm.trans l⟩;rw[<-vc (zL c) e];exact k
theorem uE.lt{c:Oper}{id:Nat}(h:uE N T ol c j id)(a:mB N T ol B c j b o):id<b.ag:=by
 obtain⟨t,q,g,d,n,e,i,k,l,m⟩:=h;obtain⟨p,f,a⟩:=a
 grind [mk_inj]
theorem T6{C:aL}{w:World}(a:List Info):∀(F:Fr) (H:ah) (j:Fr) (d:ah) (D:Oper->Prop),
 (∀u∈a,u.s=stepOf N T ol u.o/\su (cop N T u.o.op)=false/\∃t,u.o.dst=some t/\reads ol u.o t=false)->
 (∀x u,D x->u∈a->∀t,u.o.dst=some t->mN ol x t=false)->
 a.Pairwise (λu1 u2=>∀t,u2.o.dst=some t->mN ol u1.o t=false)->
 Rel C H w->B<=H.ag->(∀x,D x->mB N T ol B x F H C)->Cy N T ol D F->vj cf (lmap (λi=>dW.ex i.s) a) F H=some (j,d)->
 Rel C d w/\(∀x,D x->mB N T ol B x j d C)/\(∀u∈a,mB N T ol B u.o j d C)/\(∀t,(∀u∈a,u.o.dst≠some t)->j.get V.undef t=F.get V.undef t)/\H.ag<=d.ag/\(∀b,b<H.ag->d.get b=H.get b)/\
 Cy N T ol (λx=>D x\/∃u∈a,x=u.o) j:=by
 induction a with
 |nil=>intro F H j d D _ _ _ I _ K Q h;cases h;simp_all
 |cons u a ih=>
  intro F H j d D S hx R I hB K Q h;obtain⟨⟨p,q⟩,P,h2⟩:=aB.1 (show aq (exec cf u.s F H) (λr=>vj cf (lmap (λi=>dW.ex i.s) a) r.1 r.2)=some (j,d)from h);obtain⟨k,hE,t,L,ar⟩:=S u aI;rw[k]at P;obtain⟨p1,X,M,a3⟩:=mB.first (B:=B) L hE ar (C:=C) (λb O=>(I.top O).1) hB P
  have ap:Rel C q w:=by
   rcases M with rfl|⟨m,rfl⟩
   .exact I
   .exact Tp I
  have bb:H.ag<=q.ag:=by
   rcases M with rfl|⟨m,rfl⟩
   .exact aJ _
   .show H.ag<=H.ag+1;omega
  have ba:∀b,b<H.ag->q.get b=H.get b:=by
   intro b O;rcases M with rfl|⟨m,rfl⟩
   .rfl
   .rw[ah.bl,ao aa]
  have G:∀x,D x->∀f,mN ol x f=true->p.get V.undef f=F.get V.undef f:=by intro x c f k;refine X f (λe=>?_);have:=hx x u c aI t L;rw[e,this]at k;cases k
  have ae:∀x,(D x\/x=u.o)->mB N T ol B x p q C:=by
   rintro x (c|rfl)
   .refine(K x c).keep (G x c) (λid m A J E=>⟨by grind,J,aa⟩) (λY g v A J E _=>?_);rcases M with rfl|⟨m,rfl⟩
    .exact E
    .exact as2 A I.alZ E
   .exact p1
  have bc:∀id,uE N T ol u.o p id->H.ag<=id:=by intro id ⟨t',Y,g,m,sh,A,J,E,Z,ab⟩;rw[L]at A;cases A;have:=a3 Y g m sh J E Z;rw[ab]at this;exact Nat.le_of_eq (mk_inj this).symm
  have am:Cy N T ol (λx=>D x\/x=u.o) p:=by
   rintro x y (c|rfl) (n|rfl) id U W
   .exact Q x y c n id (U.congr (G x c)) (W.congr (G y n))
   .have:=(U.congr (G x c)).lt (K x c)
    grind
   .have:=(W.congr (G y n)).lt (K y n)
    grind
   .rfl
  obtain⟨q1,a5,bd,a6,be,bi,a7⟩:=ih p q j d (λx=>D x\/x=u.o) (λv l=>S v (by simp[l])) (λx v a0 l f k=>by
   rcases a0 with h|rfl
   .grind
   .exact(uz.1 R).1 v l f k) (uz.1 R).2 ap aa ae am h2
  refine⟨q1,λx h=>a5 x (.inl h),λv l=>?_,λf k=>?_,aa,λb O=>by grind,?_⟩
  .grind
  .rw[a6 f (λv l=>k v (by simp[l])),X f (λe=>k u aI (by rw[e];exact L))]
  .intro x y c n;have conv:∀z,(D z\/∃v∈u::a,z=v.o)->((D z\/z=u.o)\/∃v∈a,z=v.o):=by
    rintro z (h|⟨v,l,rfl⟩)
    .exact .inl (.inl h)
    .grind
   exact a7 x y (conv x c) (conv y n)
def Qf{C:aL}{c:ah}{w:World}(h:Ext o b r C I w)(p:Rel C c w)(m:I.ag<=c.ag)(f:∀a,a<I.ag->c.get a=I.get a):Ext o b r C c w:=⟨p,h.le,h.fresh,λd k n=>by rw[f _ (fy d h.ag)];exact h.pK d k n,c5 h.ag m,h.nA,h.size,h.same,λ{a l} e g=>let⟨i,j⟩:=h.kO e g;⟨by rw[f a (uC λd=>by have:=h.le a l e;rw[(h.rel.top d).1]at this;cases this)];exact i,j⟩,h.oR⟩
def ajT{C:aL}{w n:World}(h:Ext o b r C I w)(t:I.get a=.cells c 0)(m:C a=none)(u:a<I.ag)(s:b.ag<=a)(g:vQ C (.cells c 0) d w n):
 Ext o b r (C.add a ⟨w.heap.size,0,d⟩) I n:=by
 refine⟨To h.rel t m u g,aL.le_trans h.le (aL.wz m),?_,h.pK,h.ag,?_,by rw[g.size];have:=h.size;omega,h.same.trans g.same,λ{a l} i f=>let⟨p,q⟩:=h.kO i f;⟨p,(g.old l.c (h.rel.loc (h.le a l i))).trans q⟩,λj x e=>h.oR j x e⟩
 .intro x l i f;rw[aL.add_get]at f;split at f
  .rename_i e;subst e;cases f;exact⟨s,.inl h.size⟩
  .exact h.fresh i f
 .intro j k v;rw[g.old j (fy k h.size)];exact h.nA k v
end
def x2(b:f->Bool)(l:List f):l9 b l=l.filter b:=by
 induction l with
 |nil=>rfl
 |cons a l c=>have e:l9 b (a::l)=Bool.casesOn (motive:=λ_=>List f) (b a) (l9 b l) (a::l9 b l):=rfl;rw[e,c];cases h:b a<;>simp[h]
section
variable {N:fh}{T:c6}
def mkInfo(N:fh)(T:c6)(a:List Oper)(i:Nat)(o:Oper):Info:=⟨i,o,maskAt a i,stepOf N T a o,su (cop N T o.op)⟩
theorem amg{a:List Oper}:∀(l:List Oper) (ms:av) (k i:Nat),(infos N T a l ms k)[i]? =(l[i]?).map (λo=>⟨k+i,o,(ms[i]?).getD 0,stepOf N T a o,su (cop N T o.op)⟩):=by
 intro l;induction l with
 |nil=>intro ms k i;rfl
 |cons o l b=>
  intro ms k i;have e:infos N T a (o::l) ms k=⟨k,o,tO 0 ms 0,stepOf N T a o,su (cop N T o.op)⟩::infos N T a l (eH ms 1) (k+1):=rfl
  grind [Ef,List.getElem?_cons_succ,l8]
def ez(N:fh)(T:c6)(a:List Oper):List Info:=infos N T a a (masks a []) 0
theorem CQ(a:List Oper)(i:Nat):(ez N T a)[i]? =(a[i]?).map (mkInfo N T a i):=by unfold ez;rw[amg];congr 1;funext o;simp[mkInfo,maskAt,Ef]
theorem r8{a:List Oper}{x:Info}:x∈ez N T a↔∃i o,a[i]? =some o/\x=mkInfo N T a i o:=by
 rw[List.mem_iff_getElem?];constructor
 .grind [CQ]
 .rintro⟨i,o,b,rfl⟩;exact⟨i,by rw[CQ,b];rfl⟩
def Lf(c:List Oper):(ez N T c).Pairwise (λa b=>a.ix<b.ix):=by rw[List.pairwise_iff_getElem];intro i j hi k h;have d:=CQ (N:=N) (T:=T) c i;have e:=CQ (N:=N) (T:=T) c j;rw[c4 hi]at d;rw[c4 k]at e;obtain⟨l,_,f⟩:=Option.map_eq_some_iff.1 d.symm;obtain⟨m,_,g⟩:=Option.map_eq_some_iff.1 e.symm;rw[<-f,<-g];exact h
theorem uL{a:List Oper}{x y:Info}(b:x∈ez N T a)(c:y∈ez N T a)(h:x.ix=y.ix):x=y:=by
 obtain⟨i,o,d,rfl⟩:=r8.1 b;obtain⟨j,g,f,rfl⟩:=r8.1 c;have e:i=j:=h
 grind
def Xj{d:List Oper}(j:n5 d 0=true):∀ {l:List Info},(∀x∈l,x.mask=maskAt d x.ix)->C6 l=true->l.Pairwise (λa b=>Pred d b.ix a.ix):=by
 intro l;induction l with
 |nil=>intro _ _;exact .nil
 |cons a l m=>
  intro g h;have e:and (C6 l) (List.casesOn (motive:=λ_=>Bool) l true (λb _=>jK b.mask a.ix))=true:=h;rw[de]at e;have i:=m (λx k=>g x (by simp[k])) e.1;refine uz.2 ⟨?_,i⟩;cases l with
  |nil=>simp
  |cons b l=>
   have f:Pred d b.ix a.ix:=by unfold Pred;rw[<-g b aI];exact e.2
   intro c hc;rcases jr.1 hc with rfl|hc
   .exact f
   .exact JA j ((uz.1 i).1 c hc) f
def XV(a:List Info)(m:Nat):oQ a m=af (a.filter (λe=>jK m e.ix)):=by
 induction a with
 |nil=>rfl
 |cons e a c=>have h:oQ (e::a) m=Bool.casesOn (motive:=λ_=>Nat) (jK m e.ix) (oQ a m) (Nat.succ (oQ a m)):=rfl;rw[h,c];cases b:jK m e.ix<;>simp[b]
def tf(a:List Oper)(x:Info)(r:List Info):Prop:=∀e∈r,¬Pred a x.ix e.ix
theorem Kj{c:List Oper}(j:n5 c 0=true){done r:List Info}(k:(done++r).Pairwise (λa b=>Pred c b.ix a.ix)){x:Info}(l:x.mask=maskAt c x.ix):oQ (done++r) x.mask<=af done↔tf c x r:=by
 rw[XV,l,List.filter_append,bw];constructor
 .intro h e f g;have i:done.filter (λe=>jK (maskAt c x.ix) e.ix)=done:=by rw[List.filter_eq_self];intro d i;exact JA j g ((List.pairwise_append.1 k).2.2 d i e f)
  rw[i]at h;have:0<af (r.filter (λe=>jK (maskAt c x.ix) e.ix)):=List.length_pos_of_mem (rU.2 ⟨f,g⟩);omega
 .intro h;have m:r.filter (λe=>jK (maskAt c x.ix) e.ix)=[]:=by rw[List.filter_eq_nil_iff];intro e f g;exact h e f g
  grind
theorem sO{a:List Oper}(h:vr a (ez N T a)=true){k:Info}(c:k∈ez N T a):
 (k.o.dst=none->k.hM=true)/\∀t,k.o.dst=some t->(k.hM=true\/reads a k.o t=false)/\∀i∈ez N T a,i.ix=k.ix\/mN a i.o t=false\/Pred a i.ix k.ix\/(k.hM=true/\Pred a k.ix i.ix):=by
 have b:=wv.1 h k c;have e:∀i∈ez N T a,i.mask=maskAt a i.ix:=by intro i hi;obtain⟨j,f,_,rfl⟩:=r8.1 hi;rfl
 constructor
 .grind
 .intro t d;rw[d]at b;simp only[de,vE,Bool.not_eq_true']at b;refine⟨b.1,λi hi=>?_⟩;have h2:=wv.1 b.2 i hi;simp only[de,vE,Bool.not_eq_true',beq_eq]at h2;rcases h2 with h2|h2|h2|h2
  .exact .inl h2
  .exact .inr (.inl h2)
  .exact .inr (.inr (.inl (by unfold Pred;grind)))
  .exact .inr (.inr (.inr ⟨h2.1,by unfold Pred;grind⟩))
end
section
variable {P:Program}{N:fh}{T:c6}{G:Nat}{cf:kW}{ops:Array Oper}
theorem awr{a:Act}(h:∀c∈ops.toList,Jd a.tmps.size c.dst=true)(c:Oper)(p:∀t,reads ops.toList c t=true->t<a.tmps.size->aP o (j.get V.undef t) (a.tmps.getD t undef))(k:nK ops.toList c.guard j=some n):
 Region.wanted c (yielded ops a.tmps)=n:=by
 refine UN (C:=o) c k (λl b t g d=>?_);have q:reads ops.toList c t=true:=by unfold reads;rw[vE,g];exact .inr (by simp only[d];exact ya.2 rfl)
 obtain⟨m,e,i⟩:=aB.1 (show aq (dw ops.toList l) (λc=>c.dst)=some t from d);rw[iu]at e;have f:=h m (fL e);rw[i]at f;have r:t<a.tmps.size:=(fV _ _).1 f
 grind
def jG(listed:Array Bool)(i:Nat):Prop:=listed.getD i false=true
def Out(N:fh)(T:c6)(ops:Array Oper)(r:List Info)(listed:Array Bool)(x:Info):Prop:=x∈ez N T ops.toList/\x.hM=false/\tf ops.toList x r/\¬jG listed x.ix
structure pX (N:fh) (T:c6) (G:Nat) (ops:Array Oper) (lz:aL) (H0:ah) (w0:World) (done r:List Info) (F:Fr) (H:ah) (listed:Array Bool) (a:Act) (w:World) (C:aL):Prop where
 split:(ez N T ops.toList).filter (λi=>i.hM)=done++r
 size:listed.size=ops.size
 closed:FB ops.toList (jG listed)
 hG:∀e∈done++r,(jG listed e.ix↔e∈done)
 ne:∀x∈ez N T ops.toList,x.hM=false->jG listed x.ix->tf ops.toList x r
 ext:Ext lz H0 w0 C H w
 DT:mq G C
 tmps:∀t,t<a.tmps.size->(∀x,Out N T ops r listed x->x.o.dst≠some t)->aP C (F.get V.undef t) (a.tmps.getD t undef)
 pM:∀x,Out N T ops r listed x->mB N T ops.toList H0.ag x.o F H C
 HN:Cy N T ops.toList (λo=>∃x,Out N T ops r listed x/\o=x.o) F
variable{m:Nat}
theorem yG{listed:Array Bool}(hi:d<listed.size):jG (listed.setIfInBounds d true) m↔m=d\/jG listed m:=by
 unfold jG;by_cases h:d=m
 .subst h;simp[hi]
 simp_all;omega
theorem yK{r:List Info}{listed:Array Bool}(hi:d<listed.size){x:Info}:Out N T ops r (listed.setIfInBounds d true) x↔Out N T ops r listed x/\x.ix≠d:=by
 unfold Out
 grind [yG]
variable {lz:aL}{H0:ah}{w0:World}{done r:List Info}{F:Fr}{H:ah}{listed:Array Bool}{a:Act}{w:World}{C:aL}
theorem L5(e:Edge):Region.binds .any e=lV e:=by unfold Region.binds lV;cases e.ground<;>rfl
theorem Tl(h:d∈Region.ready .any ops listed):∃o,ops[d]? =some o/\ops.toList[d]? =some o/\¬jG listed d/\d<listed.size/\∀e∈o.after.toList,lV e=true->jG listed e.on:=by
 obtain⟨g,o,a,b⟩:=mem_ready.1 h;have f:d<listed.size:=by
  rcases rY d listed.size with h'|h'
  .exact h'
  .grind
 refine⟨o,a,by simpa using a,?_,f,λe c i=>?_⟩
 .unfold jG
  grind
 .exact b e (by simpa using c) (by grind [L5])
theorem MT(c:pX N T G ops lz H0 w0 done r F H listed a w C){o:Oper}(i:ops.toList[d]? =some o)(hi:d<listed.size)(k:∀e∈o.after.toList,lV e=true->jG listed e.on):FB ops.toList (jG (listed.setIfInBounds d true)):=by
 intro j h hj g e f b;rw[yG hi]at hj⊢;rcases hj with rfl|hj
 .grind
 .exact .inr (c.closed j h hj g e f b)
theorem XM(b:pX N T G ops lz H0 w0 done r F H listed a w C){x:Info}(D:Out N T ops r listed x)(A:x.o.dst=some d)(hi:x.ix<listed.size)
 (z:∀e∈x.o.after.toList,lV e=true->jG listed e.on) {q:World}{p:Value} (t:Ext lz H0 w0 o H q) (l:C.le o) (B:aP o (F.get V.undef d) p)
 (S:∀y,Out N T ops r listed y->y.ix≠x.ix->mB N T ops.toList H0.ag y.o F H o):
 pX N T G ops lz H0 w0 done r F H (listed.setIfInBounds x.ix true) (a.put (some d) p) q o:=by
 obtain⟨n,U,W,X⟩:=D;obtain⟨i,Y,u,E⟩:=r8.1 n;have v:ops.toList[x.ix]? =some x.o:=by rw[E];exact u
 refine⟨b.split,by simp[b.size],MT b v hi z,?_,?_,t,b.DT.mono l,?_,?_,?_⟩
 .intro e c;rw[yG hi,<-b.hG e c];constructor
  .rintro(h|h)
   .have Q:e∈ez N T ops.toList/\e.hM=true:=by rw[<-b.split]at c;exact rU.1 c
    grind [uL]
   .exact h
  .exact .inr
 .intro y g J hl;rw[yG hi]at hl;rcases hl with h|h
  .grind [uL]
  .exact b.ne y g J h
 .intro s f R;rw[BH]at f;by_cases m:d=s
  .subst m;simpa [Act.put,f]using B
  .have:=b.tmps s f (λy g I=>by
    by_cases K:y.ix=x.ix
    .rw[uL g.1 n K,A]at I
     grind
    grind [yK])
   have:=this.mono l;simpa [Act.put,Array.getElem?_setIfInBounds_ne m]using this
 .grind [yK]
 .rintro Z o2 ⟨O,j,rfl⟩ ⟨P,k,rfl⟩ id L M;rw[yK hi]at j k;exact b.HN _ _ ⟨O,j.1,rfl⟩ ⟨P,k.1,rfl⟩ id L M
end
section
variable {P:Program}{N:fh}{T:c6}{G:Nat}{cf:kW}{ops:Array Oper}{ro:cq}{nn:Nat}
variable {lz:aL}{H0:ah}{w0:World}{done r:List Info}{F:Fr}{H:ah}{listed:Array Bool}{a:Act}{w:World}{C:aL}
theorem Tj(j:n5 ops.toList 0=true)(m:vr ops.toList (ez N T ops.toList)=true)(b:pX N T G ops lz H0 w0 done r F H listed a w C){x:Info}(c:x∈ez N T ops.toList)
 (A:∀e∈x.o.after.toList,lV e=true->jG listed e.on) (B:reads ops.toList x.o d=true) (l:d<a.tmps.size):aP C (F.get V.undef d) (a.tmps.getD d undef):=by
 refine b.tmps d l (λy p u=>?_);obtain⟨q,s,D,t⟩:=p;obtain⟨f,g⟩:=(sO m q).2 d u;have v:reads ops.toList y.o d=false:=f.resolve_left (by rw[s];simp);obtain⟨i,E,k,n⟩:=r8.1 c;rcases g x c with h|h|h|h
 .grind [uL]
 .unfold mN at h
  grind
 .refine t (Gx j b.closed (λI z=>?_) h);have:ops.toList[x.ix]? =some x.o:=by rw[n];exact k
  grind
 grind
theorem SK(l:n5 ops.toList 0=true)(q:vr ops.toList (ez N T ops.toList)=true)(n:∀c∈ops.toList,oZ G a.tmps.size c=true)(d:pX N T G ops lz H0 w0 done r F H listed a w C){x:Info}(k:x∈ez N T ops.toList)
 (p:∀e∈x.o.after.toList,lV e=true->jG listed e.on):kJ C F a.eval x.o.op.operands.toList/\(∀ {z:Bool},nK ops.toList x.o.guard F=some z->Region.wanted x.o (yielded ops a.tmps)=z):=by
 obtain⟨i,c,E,K⟩:=r8.1 k;have I:x.o∈ops.toList:=by rw[K];exact fL E
 have j:=n x.o I;unfold oZ at j;rw[de]at j;constructor
 .intro y s f b;have m:=Ev (wv.1 j.2 y s);cases y with
  |tmp t=>cases b;exact Tj l q d k p (Tk s) m
  |const v=>obtain⟨u,J,b⟩:=aB.1 (show aq (ow 20 v) (λy=>some (λ_=>y))=some f from b);cases b;exact Fg C _ _ _ J
  |global g=>cases b;obtain⟨L,e⟩:=d.DT g m;exact .ptr e
  |func A=>cases b;exact .func A .nil .nil
 .exactλh=>awr (λc h=>by have:=n c h;unfold oZ at this;grind) x.o (λt B D=>Tj l q d k p B D) h
def mB.add{c:List Oper}{B:Nat}{o:Oper}{id:Nat}{l:Loc}(b:mB N T c B o F H C)(w:∀a,uE N T c o F a->a≠id):mB N T c B o F H (C.add id l):=by
 obtain⟨t,k,b⟩:=b;refine⟨t,k,?_⟩;rcases b with h|⟨e,n,g,q,f,i,p⟩|h
 .exact .inl h
 .refine .inr (.inl ⟨e,n,g,q,f,i,?_⟩);rcases p with h|⟨d,m,a,rfl,j,r,s,u,v⟩
  .exact .inl h
  .refine .inr ⟨d,m,a,rfl,j,r,?_,u,v⟩;rw[aL.add_get];rw[ao (w a ⟨t,n,g,d,m,k,e,f,i,j⟩)];exact s
 .exact .inr (.inr h)
theorem arS(b:n5 ops.toList 0=true)(g:vr ops.toList (ez N T ops.toList)=true){x y:Info}(i:x∈ez N T ops.toList)(j:y∈ez N T ops.toList)(m:x.hM=false)(n:y.hM=false)(h:y.o=x.o)(a:x.o.dst=some d):y.ix=x.ix:=by
 have c:y.o.dst=some d:=by rw[h];exact a
 have k:mN ops.toList x.o d=true:=by unfold mN;rw[ya.2 a];rfl
 have l:mN ops.toList y.o d=true:=by unfold mN;rw[ya.2 c];rfl
 rcases((sO g i).2 d a).2 y j with e|e|e|e
 .exact e
 .rw[l]at e;cases e
 .rcases((sO g j).2 d c).2 x i with f|f|f|f
  .exact f.symm
  .rw[k]at f;cases f
  .have:=pred_lt b e;have:=pred_lt b f;omega
  grind
 grind
variable{M:Exit->Act->World->Prop}
theorem arh(hT:dH P T)(b_:kH P N)(J:n5 ops.toList 0=true)(R:vr ops.toList (ez N T ops.toList)=true)(ae:∀aw∈ops.toList,oZ G a.tmps.size aw=true)
 (b:pX N T G ops lz H0 w0 done r F H listed a w C) {x:Info} (j:Out N T ops r listed x) (am:ops[x.ix]? =some x.o) (hi:x.ix<listed.size) (Q:∀e∈x.o.after.toList,lV e=true->jG listed e.on) {K:Act->World->Prop}
 (hK:∀p h D,pX N T G ops lz H0 w0 done r F H (listed.setIfInBounds x.ix true) p h D->p.tmps.size=a.tmps.size->p.defers=a.defers->K p h):wpOpIn (fw ro) nn P ops M x.ix K a w:=by
 obtain⟨L,E⟩:=SK J R ae b j.1 Q;have Z:∀f,a.eval (.func f)=.func (.func f) #[] #[]:=λf=>rfl
 obtain⟨t,u,hp⟩:=b.pM x j;have s:∀ {D:aL}{h:World}{l:Value},Ext lz H0 w0 D H h->C.le D->aP D (F.get V.undef t) l->(∀y,Out N T ops r listed y->y.ix≠x.ix->mB N T ops.toList H0.ag y.o F H D)->K (a.put x.o.dst l) h:=by intro D h l d c i z;rw[u];exact hK _ _ D (XM b j u hi Q d c i z) (BH _ _ _) (put_defers _ _ _)
 have B:∀y,Out N T ops r listed y->y.ix≠x.ix->mB N T ops.toList H0.ag y.o F H C:=λy k _=>b.pM y k
 unfold wpOpIn;simp only[am];rcases hp with⟨d,c⟩|⟨d,S,g,q,c,i,z⟩|⟨d,S,g,c,i⟩
 .rw[E d];simp only[jk,if_false];refine⟨λ_ _=>trivial,?_⟩;exact s b.ext (aL.le_refl _) (by rw[c];exact .aH .nil) B
 .rw[E d];simp only[if_true];refine⟨λ_ _=>trivial,?_⟩;rw[Oper.semAt_eq _ _ _ (x9 (N:=N) (T:=T) (by rw[c];simp))];have O:=S7 hT b_ Z x.o c L i w;rcases z with⟨v,rfl,A⟩|⟨U,sh,id,rfl,A,W,I,X,Y⟩
  .obtain⟨l,m,n⟩:=O;rw[m];exact s b.ext (aL.le_refl _) (by rw[A];exact n) B
  .obtain⟨l,h,a2,m,n,a1⟩:=O;rw[m];refine s (ajT b.ext W I X Y n) (aL.wz I) (by grind [aL.uK]) (λy k ap=>?_);refine(b.pM y k).add (λar hn he=>ap ?_);subst he;exact arS J R j.1 k.1 j.2.1 k.2.1 (b.HN _ _ ⟨y,k,rfl⟩ ⟨x,j,rfl⟩ ar hn ⟨t,S,g,U,sh,u,d,c,i,A⟩) u
 .rw[E d];simp only[if_true];refine⟨λ_ _=>trivial,?_⟩;rw[Oper.semAt_eq _ _ _ (x9 (N:=N) (T:=T) (by rw[c];simp))];obtain⟨l,m,n⟩:=Th hT b.ext.rel x.o c L i;rw[m];exact s b.ext (aL.le_refl _) n B
end
end Go.ax
