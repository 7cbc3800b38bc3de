/- The abstract evaluator of the model: texts A B C D. -/
import Derived.Calls
import Derived.Orders
/- The abstract evaluator, part A: binary tries, abstract values, abstract heaps. -/
namespace Go.Ev

/-! Tries -/
inductive Tr (α : Type) where
  | nil
  | node (l : Tr α) (v : α) (r : Tr α)

/-- the path of an index, with fuel -/
noncomputable def pathF (f : Nat) : Nat → List Bool :=
  Nat.rec (motive := fun _ => Nat → List Bool) (fun _ => []) (fun _ ih n => Nat.rec (motive := fun _ => List Bool) [] (fun m _ => (Nat.beq (Nat.mod m 2) 1) :: ih (Nat.div m 2)) n) f

noncomputable def path (n : Nat) : List Bool := pathF n n

def unpath : List Bool → Nat
  | [] => 0
  | b :: p => 2 * unpath p + (if b then 1 else 0) + 1

theorem unpath_pathF (f : Nat) : ∀ n, n ≤ f → unpath (pathF f n) = n := by
  induction f with
  | zero => intro n h; have : n = 0 := by omega
            subst this; rfl
  | succ f ih =>
    intro n h
    cases n with
    | zero => rfl
    | succ m =>
      show 2 * unpath (pathF f (m / 2)) + (if Nat.beq (m % 2) 1 then 1 else 0) + 1 = m + 1
      rw [ih (m / 2) (by omega)]
      rcases Nat.mod_two_eq_zero_or_one m with h | h <;> simp [h, Nat.beq] <;> omega

theorem path_inj {a b : Nat} (h : path a = path b) : a = b := by
  have h1 := unpath_pathF a a (Nat.le_refl _)
  have h2 := unpath_pathF b b (Nat.le_refl _)
  unfold path at h
  rw [← h1, ← h2, h]

noncomputable def Tr.getP {α : Type} (d : α) (p : List Bool) : Tr α → α :=
  List.rec (motive := fun _ => Tr α → α) (fun t => Tr.casesOn t d (fun _ v _ => v))
    (fun b _ ih t => Tr.casesOn t d (fun l _ r => Bool.casesOn b (ih l) (ih r))) p

noncomputable def Tr.setP {α : Type} (d x : α) (p : List Bool) : Tr α → Tr α :=
  List.rec (motive := fun _ => Tr α → Tr α) (fun t => Tr.casesOn t (.node .nil x .nil) (fun l _ r => .node l x r))
    (fun b _ ih t => Tr.casesOn t (Bool.casesOn b (.node (ih .nil) d .nil) (.node .nil d (ih .nil)))
      (fun l v r => Bool.casesOn b (.node (ih l) v r) (.node l v (ih r)))) p

theorem Tr.getP_nil {α : Type} (d : α) (p : List Bool) : Tr.getP d p .nil = d := by cases p <;> rfl

theorem Tr.getP_setP {α : Type} (d x : α) (p : List Bool) : ∀ t, Tr.getP d p (Tr.setP d x p t) = x := by
  induction p with
  | nil => intro t; cases t <;> rfl
  | cons b p ih => intro t; cases t <;> cases b <;> exact ih _

theorem Tr.getP_setP_ne {α : Type} (d x : α) (p : List Bool) : ∀ (q : List Bool) t, q ≠ p → Tr.getP d q (Tr.setP d x p t) = Tr.getP d q t := by
  induction p with
  | nil =>
    intro q t hq
    cases q with
    | nil => exact absurd rfl hq
    | cons b q =>
      cases t with
      | nil => cases b <;> exact Tr.getP_nil d q
      | node l v r => cases b <;> rfl
  | cons c p ih =>
    intro q t hq
    cases q with
    | nil => cases t <;> cases c <;> rfl
    | cons b q =>
      cases t with
      | nil =>
        cases b <;> cases c
        · exact (ih q .nil (fun h => hq (by rw [h]))).trans (Tr.getP_nil d q)
        · exact Tr.getP_nil d q
        · exact Tr.getP_nil d q
        · exact (ih q .nil (fun h => hq (by rw [h]))).trans (Tr.getP_nil d q)
      | node l v r =>
        cases b <;> cases c
        · exact ih q l (fun h => hq (by rw [h]))
        · rfl
        · rfl
        · exact ih q r (fun h => hq (by rw [h]))

noncomputable def Tr.get {α : Type} (d : α) (t : Tr α) (n : Nat) : α := Tr.getP d (path n) t
noncomputable def Tr.set {α : Type} (d : α) (t : Tr α) (n : Nat) (x : α) : Tr α := Tr.setP d x (path n) t

theorem Tr.get_nil {α : Type} (d : α) (n : Nat) : Tr.get d .nil n = d := Tr.getP_nil d _
theorem Tr.get_set {α : Type} (d : α) (t : Tr α) (i j : Nat) (x : α) : (t.set d i x).get d j = if i = j then x else t.get d j := by
  unfold Tr.get Tr.set
  split
  · rename_i h; subst h; exact Tr.getP_setP d x _ t
  · rename_i h; exact Tr.getP_setP_ne d x _ _ t (fun e => h (path_inj e).symm)
end Go.Ev
/- The abstract evaluator, part B: abstract values and heaps. -/
namespace Go.Ev

/-- what is known of a slice's capacity -/
inductive Cap where
  | known (n : Nat)
  | grown (sz : Nat)
  | opaq

inductive V where
  | bool (b : Bool)
  | int (k : IntKind) (n : Int)
  | str (s : List UInt8)
  | ptr (b o : Nat)
  | nilp
  | slice (b o len : Nat) (cap : Cap)
  | nils
  | emp
  | map (b : Nat)
  | nilm
  | func (f : FuncId) (first captured : List V)
  | nilf
  | iface (t : TypeId) (v : V)
  | nili
  | agg (cs : List V)
  | tup (vs : List V)
  /-- not known -/
  | any
  /-- not known, of one cell -/
  | cell
  /-- the function that a loop over a function hands to it -/
  | yld (b : Nat)

abbrev V.undef : V := .tup []

abbrev Fr := Tr V

/-- a loop over a function: the frame and the code of its rounds; its state: 0 ready, 1 busy, 2 done, 3 exhausted -/
structure ALoop where
  n : Nat
  F : Fr
  params : List Nat
  assign : Code
  body : Code
  st : Nat
  pend : Option Code
/-- what is no row of cells -/
inductive Oth where
  | map (es : List (V × V))
  /-- over map m, which had 'since' entries; those to come; the last one; the entries at the last step -/
  | iter (m since : Nat) (left : List Nat) (cur : Option Nat) (last : Nat)
  | text (s : List UInt8) (pos : Nat)
  | loop (l : ALoop)
  /-- this very object, which is only read -/
  | ro (x : Obj)

inductive AObj where
  | none
  | cells (cs : List V) (g : Nat)
  | grp (leaf floor : Nat)
  | oth (o : Oth)

structure Heap where
  m : Tr AObj
  next : Nat

/- lists, by recursors -/
noncomputable def lget {α : Type} (d : α) (l : List α) : Nat → α :=
  List.rec (motive := fun _ => Nat → α) (fun _ => d) (fun v _ ih n => Nat.rec (motive := fun _ => α) v (fun m _ => ih m) n) l
noncomputable def lget? {α : Type} (l : List α) : Nat → Option α :=
  List.rec (motive := fun _ => Nat → Option α) (fun _ => Option.none) (fun v _ ih n => Nat.rec (motive := fun _ => Option α) (some v) (fun m _ => ih m) n) l
noncomputable def llen {α : Type} (l : List α) : Nat := List.rec (motive := fun _ => Nat) 0 (fun _ _ ih => Nat.succ ih) l
noncomputable def ldrop {α : Type} (l : List α) : Nat → List α :=
  List.rec (motive := fun _ => Nat → List α) (fun _ => []) (fun v l ih n => Nat.rec (motive := fun _ => List α) (v :: l) (fun m _ => ih m) n) l
/-- the first n, all of them there -/
noncomputable def ltake? {α : Type} (l : List α) : Nat → Option (List α) :=
  List.rec (motive := fun _ => Nat → Option (List α)) (fun n => Nat.rec (motive := fun _ => Option (List α)) (some []) (fun _ _ => Option.none) n)
    (fun v _ ih n => Nat.rec (motive := fun _ => Option (List α)) (some []) (fun m _ => Option.casesOn (motive := fun _ => Option (List α)) (ih m) Option.none (fun r => some (v :: r))) n) l
/-- xs laid over l from its head -/
noncomputable def lover {α : Type} (xs : List α) : List α → Option (List α) :=
  List.rec (motive := fun _ => List α → Option (List α)) (fun l => some l)
    (fun x _ ih l => List.casesOn (motive := fun _ => Option (List α)) l Option.none (fun _ l => Option.casesOn (motive := fun _ => Option (List α)) (ih l) Option.none (fun r => some (x :: r)))) xs
/-- xs laid over l from place o on -/
noncomputable def lsplice {α : Type} (xs : List α) (l : List α) : Nat → Option (List α) :=
  List.rec (motive := fun _ => Nat → Option (List α)) (fun n => Nat.rec (motive := fun _ => Option (List α)) (lover xs []) (fun _ _ => Option.none) n)
    (fun v l ih n => Nat.rec (motive := fun _ => Option (List α)) (lover xs (v :: l)) (fun m _ => Option.casesOn (motive := fun _ => Option (List α)) (ih m) Option.none (fun r => some (v :: r))) n) l

noncomputable def obind {α β : Type} (x : Option α) (f : α → Option β) : Option β :=
  Option.casesOn (motive := fun _ => Option β) x Option.none f
noncomputable def oif {α : Type} (b : Bool) (x : Option α) : Option α :=
  Bool.casesOn (motive := fun _ => Option α) b Option.none x

/- heaps -/
noncomputable def Heap.get (H : Heap) (b : Nat) : AObj := H.m.get .none b
noncomputable def Heap.set (H : Heap) (b : Nat) (o : AObj) : Heap := ⟨H.m.set .none b o, H.next⟩
noncomputable def Heap.push (H : Heap) (o : AObj) : Heap := ⟨H.m.set .none H.next o, Nat.succ H.next⟩

/-- may block b of group g be read -/
noncomputable def Heap.lives (H : Heap) (b g : Nat) : Bool :=
  Nat.rec (motive := fun _ => Bool) true (fun _ _ => AObj.casesOn (motive := fun _ => Bool) (H.get g) false (fun _ _ => false) (fun _ fl => Nat.ble fl b) (fun _ => false)) g
noncomputable def Heap.cells? (H : Heap) (b : Nat) : Option (List V) :=
  AObj.casesOn (motive := fun _ => Option (List V)) (H.get b) Option.none (fun cs g => oif (H.lives b g) (some cs)) (fun _ _ => Option.none) (fun _ => Option.none)
noncomputable def Heap.load (H : Heap) (b o : Nat) : Option V := obind (H.cells? b) fun cs => lget? cs o
noncomputable def Heap.loadN (H : Heap) (b o n : Nat) : Option (List V) := obind (H.cells? b) fun cs => ltake? (ldrop cs o) n
def V.one (v : V) : Bool := match v with
  | .agg _ => false
  | .tup _ => false
  | .any => false
  | _ => true
noncomputable def allOne (l : List V) : Bool := List.rec (motive := fun _ => Bool) true (fun v _ ih => and v.one ih) l
noncomputable def Heap.storeN (H : Heap) (b o : Nat) (vs : List V) : Option Heap :=
  AObj.casesOn (motive := fun _ => Option Heap) (H.get b) Option.none
    (fun cs g => oif (allOne vs) <| obind (lsplice vs cs o) fun cs' =>
      Nat.rec (motive := fun _ => Option Heap) (some (H.set b (.cells cs' 0)))
        (fun _ _ => AObj.casesOn (motive := fun _ => Option Heap) (H.get g) Option.none (fun _ _ => Option.none)
          (fun leaf _ => oif (Nat.beq leaf b) (some ((H.set b (.cells cs' g)).set g (.grp b b)))) (fun _ => Option.none)) g)
    (fun _ _ => Option.none) (fun _ => Option.none)

/- equality, with fuel -/
noncomputable def lall2 {α : Type} (f : α → α → Bool) (l : List α) : List α → Bool :=
  List.rec (motive := fun _ => List α → Bool) (fun m => List.casesOn (motive := fun _ => Bool) m true (fun _ _ => false))
    (fun a _ ih m => List.casesOn (motive := fun _ => Bool) m false (fun b m => and (f a b) (ih m))) l
def keq (a b : IntKind) : Bool := match a, b with
  | .i8, .i8 | .i16, .i16 | .i32, .i32 | .i64, .i64 | .u8, .u8 | .u16, .u16 | .u32, .u32 | .u64, .u64 => true
  | _, _ => false
def ieq (a b : Int) : Bool := match a, b with
  | .ofNat a, .ofNat b => Nat.beq a b
  | .negSucc a, .negSucc b => Nat.beq a b
  | _, _ => false
def ilt (a b : Int) : Bool := match a, b with
  | .ofNat a, .ofNat b => Nat.ble (Nat.succ a) b
  | .ofNat _, .negSucc _ => false
  | .negSucc _, .ofNat _ => true
  | .negSucc a, .negSucc b => Nat.ble (Nat.succ b) a
def ueq (a b : UInt8) : Bool := Nat.beq a.toNat b.toNat
def caeq (a b : Cap) : Bool := match a, b with
  | .known a, .known b => Nat.beq a b
  | .grown a, .grown b => Nat.beq a b
  | .opaq, .opaq => true
  | _, _ => false
noncomputable def veq (n : Nat) : V → V → Bool :=
  Nat.rec (motive := fun _ => V → V → Bool) (fun _ _ => false) (fun _ ih a b =>
    match a with
    | .bool x => (match b with | .bool y => Bool.casesOn (motive := fun _ => Bool) x (!y) y | _ => false)
    | .int k x => (match b with | .int l y => and (keq k l) (ieq x y) | _ => false)
    | .str x => (match b with | .str y => lall2 ueq x y | _ => false)
    | .ptr x y => (match b with | .ptr z t => and (Nat.beq x z) (Nat.beq y t) | _ => false)
    | .nilp => (match b with | .nilp => true | _ => false)
    | .slice p q r s => (match b with | .slice x y z t => and (and (Nat.beq p x) (Nat.beq q y)) (and (Nat.beq r z) (caeq s t)) | _ => false)
    | .nils => (match b with | .nils => true | _ => false)
    | .emp => (match b with | .emp => true | _ => false)
    | .map x => (match b with | .map y => Nat.beq x y | _ => false)
    | .nilm => (match b with | .nilm => true | _ => false)
    | .func f x y => (match b with | .func g z t => and (Nat.beq f g) (and (lall2 ih x z) (lall2 ih y t)) | _ => false)
    | .nilf => (match b with | .nilf => true | _ => false)
    | .iface x y => (match b with | .iface z t => and (Nat.beq x z) (ih y t) | _ => false)
    | .nili => (match b with | .nili => true | _ => false)
    | .agg x => (match b with | .agg y => lall2 ih x y | _ => false)
    | .tup x => (match b with | .tup y => lall2 ih x y | _ => false)
    | .any => false
    | .cell => false
    | .yld x => (match b with | .yld y => Nat.beq x y | _ => false)) n

/-- a constant of the program -/
noncomputable def toVs (f : Value → Option V) (l : List Value) : Option (List V) :=
  List.rec (motive := fun _ => Option (List V)) (some []) (fun v _ ih => obind (f v) fun x => obind ih fun r => some (x :: r)) l
noncomputable def toV (n : Nat) : Value → Option V :=
  Nat.rec (motive := fun _ => Value → Option V) (fun _ => Option.none) (fun _ ih v =>
    match v with
    | .bool b => some (.bool b)
    | .int k n => some (.int k n)
    | .string s => some (.str s.data.toList)
    | .pointer Option.none => some .nilp
    | .slice Option.none 0 0 => some .nils
    | .map Option.none => some .nilm
    | .nilFunc => some .nilf
    | .nilIface => some .nili
    | .agg cs => obind (toVs ih cs.toList) fun r => some (.agg r)
    | .tuple cs => obind (toVs ih cs.toList) fun r => some (.tup r)
    | _ => Option.none) n
end Go.Ev
/- The abstract evaluator, part C: what the operations do. -/
namespace Go.Ev

/-- types; eq: the types whose values may be compared cell by cell -/
structure Ty where
  m : Tr (Option TypeInfo)
  eq : Tr Bool
noncomputable def Ty.info (T : Ty) (t : TypeId) : Option TypeInfo := T.m.get Option.none t
noncomputable def Ty.eqOk (T : Ty) (t : TypeId) : Bool := T.eq.get false t
noncomputable def Ty.und (T : Ty) (t : TypeId) : Option TypeDesc :=
  obind (T.info t) fun i => match i.desc with
    | .named _ u => obind (T.info u) fun j => some j.desc
    | d => some d
noncomputable def Ty.isAgg (T : Ty) (t : TypeId) : Option Bool := obind (T.und t) fun d => match d with
  | .struct _ => some true
  | .array _ _ => some true
  | _ => some false

inductive Shape where
  | ptr | slice (len cap : Nat) | bytes (len : Nat) | map
inductive NR where
  | val (v : V)
  | new (cs : List V) (s : Shape)

def Shape.mk (s : Shape) (b : Nat) : V := match s with
  | .ptr => .ptr b 0
  | .slice l c => .slice b 0 l (.known c)
  | .bytes l => .slice b 0 l .opaq
  | .map => .map b

/-- what is called -/
inductive Tgt where
  | fn (f : FuncId)
  | yld (b : Nat)

inductive Cop where
  | bad
  | pu (xs : List (Fr → V)) (g : List V → Option NR)
  | rd (xs : List (Fr → V)) (g : List V → Heap → Option V)
  | eff (xs : List (Fr → V)) (g : List V → Heap → Option (V × Heap))
  | call (xs : List (Fr → V)) (g : List V → Option (Tgt × List V))
  | nxt (x : Fr → V)

/- operands -/
noncomputable def opd (x : Operand) : Option (Fr → V) := match x with
  | .tmp t => some (fun F => Tr.getP V.undef (path t) F)
  | .const v => obind (toV 20 v) fun y => some (fun _ => y)
  | .global g => some (fun _ => .ptr g 0)
  | .func f => some (fun _ => .func f [] [])
noncomputable def opds (l : List Operand) : Option (List (Fr → V)) :=
  List.rec (motive := fun _ => Option (List (Fr → V))) (some []) (fun x _ ih => obind (opd x) fun f => obind ih fun r => some (f :: r)) l

/- integers -/
def modK : IntKind → Nat
  | .i8 | .u8 => 256 | .i16 | .u16 => 65536 | .i32 | .u32 => 4294967296 | .i64 | .u64 => 18446744073709551616
def bitsK : IntKind → Nat
  | .i8 | .u8 => 8 | .i16 | .u16 => 16 | .i32 | .u32 => 32 | .i64 | .u64 => 64
def sgnK : IntKind → Bool
  | .i8 | .i16 | .i32 | .i64 => true
  | _ => false
def resK (M : Nat) (x : Int) : Nat := match x with
  | .ofNat a => Nat.mod a M
  | .negSucc a => Nat.sub (Nat.sub M 1) (Nat.mod a M)
noncomputable def backN (sg : Bool) (M m : Nat) : Int :=
  Bool.casesOn (motive := fun _ => Int) (and sg (Nat.ble M (Nat.mul 2 m))) (.ofNat m) (.negSucc (Nat.sub (Nat.sub M 1) m))
noncomputable def wrapK (k : IntKind) (x : Int) : Int := backN (sgnK k) (modK k) (resK (modK k) x)

noncomputable def ipu (k : IntKind) (x : Int) : Option NR := some (.val (.int k x))
noncomputable def bpu (b : Bool) : Option NR := some (.val (.bool b))
def shrN (x : Int) (n : Nat) : Int := match x with
  | .ofNat a => .ofNat (Nat.div a (Nat.pow 2 n))
  | .negSucc a => .negSucc (Nat.div a (Nat.pow 2 n))
noncomputable def nmin (a b : Nat) : Nat := Bool.casesOn (motive := fun _ => Nat) (Nat.ble a b) b a

/-- a binary operation on two integers, by the operation -/
noncomputable def intOp (op : BinOp) : Option (IntKind → Int → IntKind → Int → Option NR) := match op with
  | .add => some fun k a l b => oif (keq k l) (ipu k (wrapK k (Int.add a b)))
  | .sub => some fun k a l b => oif (keq k l) (ipu k (wrapK k (Int.sub a b)))
  | .mul => some fun k a l b => oif (keq k l) (ipu k (wrapK k (Int.mul a b)))
  | .quo => some fun k a l b => oif (and (keq k l) (!(ieq b (.ofNat 0)))) (ipu k (wrapK k (Int.tdiv a b)))
  | .rem => some fun k a l b => oif (and (keq k l) (!(ieq b (.ofNat 0)))) (ipu k (Int.tmod a b))
  | .and => some fun k a l b => oif (keq k l) (ipu k (backN (sgnK k) (modK k) (Nat.land (resK (modK k) a) (resK (modK k) b))))
  | .or => some fun k a l b => oif (keq k l) (ipu k (backN (sgnK k) (modK k) (Nat.lor (resK (modK k) a) (resK (modK k) b))))
  | .xor => some fun k a l b => oif (keq k l) (ipu k (backN (sgnK k) (modK k) (Nat.xor (resK (modK k) a) (resK (modK k) b))))
  | .andNot => some fun k a l b => oif (keq k l) (ipu k (backN (sgnK k) (modK k) (Nat.land (resK (modK k) a) (Nat.sub (Nat.sub (modK k) 1) (resK (modK k) b)))))
  | .shl => some fun k a _ b => (match b with
      | .ofNat y => ipu k (wrapK k (Int.mul a (.ofNat (Nat.pow 2 (nmin y (bitsK k))))))
      | .negSucc _ => Option.none)
  | .shr => some fun k a _ b => (match b with
      | .ofNat y => ipu k (shrN a (nmin y (bitsK k)))
      | .negSucc _ => Option.none)
  | .eql => some fun k a l b => oif (keq k l) (bpu (ieq a b))
  | .neq => some fun k a l b => oif (keq k l) (bpu (!(ieq a b)))
  | .lss => some fun k a l b => oif (keq k l) (bpu (ilt a b))
  | .leq => some fun k a l b => oif (keq k l) (bpu (!(ilt b a)))
  | .gtr => some fun k a l b => oif (keq k l) (bpu (ilt b a))
  | .geq => some fun k a l b => oif (keq k l) (bpu (!(ilt a b)))

/- strings -/
noncomputable def sless (x : List UInt8) : List UInt8 → Bool :=
  List.rec (motive := fun _ => List UInt8 → Bool) (fun m => List.casesOn (motive := fun _ => Bool) m false (fun _ _ => true))
    (fun a _ ih m => List.casesOn (motive := fun _ => Bool) m false (fun b m => or (Nat.ble (Nat.succ a.toNat) b.toNat) (and (Nat.beq a.toNat b.toNat) (ih m)))) x
noncomputable def lapp {α : Type} (x y : List α) : List α := List.rec (motive := fun _ => List α) y (fun a _ ih => a :: ih) x
noncomputable def strOp (op : BinOp) : Option (List UInt8 → List UInt8 → Option NR) := match op with
  | .add => some fun x y => oif (Nat.ble (Nat.add (llen x) (llen y)) 9223372036854775807) (some (.val (.str (lapp x y))))
  | .eql => some fun x y => bpu (lall2 ueq x y)
  | .neq => some fun x y => bpu (!(lall2 ueq x y))
  | .lss => some fun x y => bpu (sless x y)
  | .leq => some fun x y => bpu (or (sless x y) (lall2 ueq x y))
  | .gtr => some fun x y => bpu (!(or (sless x y) (lall2 ueq x y)))
  | .geq => some fun x y => bpu (!(sless x y))
  | _ => Option.none

noncomputable def binG (f : IntKind → Int → IntKind → Int → Option NR) (l : List V) : Option NR :=
  match l with
  | [a, b] => (match a with
    | .int k x => (match b with | .int k' y => f k x k' y | _ => Option.none)
    | _ => Option.none)
  | _ => Option.none
noncomputable def strG (f : List UInt8 → List UInt8 → Option NR) (l : List V) : Option NR :=
  match l with
  | [a, b] => (match a with
    | .str x => (match b with | .str y => f x y | _ => Option.none)
    | _ => Option.none)
  | _ => Option.none
/-- '==' of bools, and of pointers, slices, maps, functions and interfaces with nil -/
noncomputable def eqG (neg : Bool) (l : List V) : Option NR :=
  match l with
  | [a, b] => (match a with
    | .bool x => (match b with | .bool y => bpu (xor neg (xor x (!y))) | _ => Option.none)
    | .nilp => (match b with | .nilp => bpu (!neg) | .ptr _ _ => bpu neg | _ => Option.none)
    | .ptr _ _ => (match b with | .nilp => bpu neg | _ => Option.none)
    | .nils => (match b with | .nils => bpu (!neg) | .slice .. => bpu neg | .emp => bpu neg | _ => Option.none)
    | .slice .. => (match b with | .nils => bpu neg | _ => Option.none)
    | .emp => (match b with | .nils => bpu neg | _ => Option.none)
    | .nilm => (match b with | .nilm => bpu (!neg) | .map _ => bpu neg | _ => Option.none)
    | .map _ => (match b with | .nilm => bpu neg | _ => Option.none)
    | .nilf => (match b with | .nilf => bpu (!neg) | .func .. => bpu neg | _ => Option.none)
    | .func .. => (match b with | .nilf => bpu neg | _ => Option.none)
    | _ => Option.none)
  | _ => Option.none
/-- does the first operand fit the kind -/
def fitsD (d : TypeDesc) (a : V) : Bool := match d with
  | .bool => (match a with | .bool _ => true | _ => false)
  | .pointer _ => (match a with | .ptr _ _ => true | .nilp => true | _ => false)
  | .slice _ => (match a with | .slice .. => true | .nils => true | .emp => true | _ => false)
  | .map _ _ => (match a with | .map _ => true | .nilm => true | _ => false)
  | .func _ _ _ => (match a with | .func .. => true | .nilf => true | _ => false)
  | _ => false
noncomputable def eqD (neg : Bool) (d : TypeDesc) (l : List V) : Option NR := match l with
  | a :: r => oif (fitsD d a) (eqG neg (a :: r))
  | _ => Option.none
/-- equality of two cells of a kind -/
noncomputable def cellEq (d : TypeDesc) (a b : V) : Option Bool := match d with
  | .bool => (match a with | .bool x => (match b with | .bool y => some (Bool.casesOn (motive := fun _ => Bool) x (!y) y) | _ => Option.none) | _ => Option.none)
  | .int _ => (match a with | .int k x => (match b with | .int l y => oif (keq k l) (some (ieq x y)) | _ => Option.none) | _ => Option.none)
  | .string => (match a with | .str x => (match b with | .str y => some (lall2 ueq x y) | _ => Option.none) | _ => Option.none)
  | _ => Option.none
noncomputable def cellsEq (ds : List TypeDesc) : List V → List V → Option Bool :=
  List.rec (motive := fun _ => List V → List V → Option Bool) (fun xs ys => List.casesOn (motive := fun _ => Option Bool) xs (List.casesOn (motive := fun _ => Option Bool) ys (some true) (fun _ _ => Option.none)) (fun _ _ => Option.none))
    (fun d _ ih xs ys => List.casesOn (motive := fun _ => Option Bool) xs Option.none (fun x xs => List.casesOn (motive := fun _ => Option Bool) ys Option.none (fun y ys =>
      obind (cellEq d x y) fun r => obind (ih xs ys) fun s => some (and r s)))) ds
def isFlat (d : TypeDesc) : Bool := match d with
  | .bool => true
  | .int _ => true
  | .string => true
  | _ => false
/-- the kinds of the fields of a struct, each of one cell, from place i on -/
noncomputable def fldKinds (T : Ty) (l : List Field) : Nat → Option (List TypeDesc) :=
  List.rec (motive := fun _ => Nat → Option (List TypeDesc)) (fun _ => some [])
    (fun f _ ih i => oif (and (!(f.name == "_")) (Nat.beq f.offset i)) <| obind (T.und f.type) fun d => oif (isFlat d) <| obind (ih (Nat.succ i)) fun r => some (d :: r)) l
noncomputable def rep1 {α : Type} (a : α) (n : Nat) : List α := Nat.rec (motive := fun _ => List α) [] (fun _ ih => a :: ih) n
/-- the kinds of the cells of a struct or an array that can be compared -/
noncomputable def aggKinds (T : Ty) (t : TypeId) : Option (List TypeDesc) :=
  obind (T.und t) fun d => match d with
    | .struct fs => oif (T.eqOk t) (fldKinds T fs.toList 0)
    | .array n e => obind (T.und e) fun d => oif (isFlat d) <| obind (T.info e) fun i => oif (Nat.beq i.size 1) (some (rep1 d n))
    | _ => Option.none
noncomputable def aggEqG (ds : List TypeDesc) (neg : Bool) (l : List V) : Option NR :=
  match l with
  | [a, b] => (match a with
    | .agg x => (match b with | .agg y => obind (cellsEq ds x y) fun r => bpu (Bool.casesOn (motive := fun _ => Bool) neg r (!r)) | _ => Option.none)
    | _ => Option.none)
  | _ => Option.none

noncomputable def binC (T : Ty) (op : BinOp) (t : TypeId) (xs : List (Fr → V)) : Cop :=
  match T.und t with
  | some (.int _) => (match intOp op with | some f => .pu xs (binG f) | Option.none => .bad)
  | some .string => (match strOp op with | some f => .pu xs (strG f) | Option.none => .bad)
  | some (.struct _) => (match aggKinds T t with
    | some ds => (match op with | .eql => .pu xs (aggEqG ds false) | .neq => .pu xs (aggEqG ds true) | _ => .bad)
    | Option.none => .bad)
  | some d => (match op with | .eql => .pu xs (eqD false d) | .neq => .pu xs (eqD true d) | _ => .bad)
  | _ => .bad

/- memory -/
def cellsOf (v : V) : List V := match v with
  | .agg cs => cs
  | v => [v]
def kn (v : V) : Bool := match v with
  | .any => false
  | _ => true
noncomputable def rep {α : Type} (zs : List α) (n : Nat) : List α := Nat.rec (motive := fun _ => List α) [] (fun _ ih => lapp zs ih) n

noncomputable def loadG (agg : Bool) (size : Nat) (l : List V) (H : Heap) : Option V :=
  match l with
  | [.ptr b o] => Bool.casesOn (motive := fun _ => Option V) agg (H.load b o) (obind (H.loadN b o size) fun cs => some (.agg cs))
  | _ => Option.none
noncomputable def storeG (size : Nat) (l : List V) (H : Heap) : Option (V × Heap) :=
  match l with
  | [.ptr b o, v] => oif (and (kn v) (Nat.beq (llen (cellsOf v)) size)) (obind (H.storeN b o (cellsOf v)) fun H => some (V.undef, H))
  | _ => Option.none

/-- parts laid into cells: place i gives offset and size -/
noncomputable def fillG (ps : List (Nat × Nat)) : List V → List V → Option (List V) :=
  List.rec (motive := fun _ => List V → List V → Option (List V)) (fun _ cs => some cs)
    (fun p _ ih vs cs => List.casesOn (motive := fun _ => Option (List V)) vs Option.none (fun v vs =>
      oif (and (kn v) (Nat.beq (llen (cellsOf v)) p.2)) (obind (lsplice (cellsOf v) cs p.1) fun cs => ih vs cs))) ps
noncomputable def placesOf (f : Nat → Option (Nat × Nat)) (l : List (Nat × Operand)) : Option (List (Nat × Nat) × List (Fr → V)) :=
  List.rec (motive := fun _ => Option (List (Nat × Nat) × List (Fr → V))) (some ([], []))
    (fun p _ ih => obind (f p.1) fun q => obind (opd p.2) fun x => obind ih fun r => some (q :: r.1, x :: r.2)) l

noncomputable def zeroCells (T : Ty) (t : TypeId) : Option (List V) :=
  obind (T.info t) fun i => obind i.zero fun z => obind (toV 20 z) fun v => some (cellsOf v)
noncomputable def sizeT (T : Ty) (t : TypeId) : Option Nat := obind (T.info t) fun i => some i.size

noncomputable def ofO (x : Option Cop) : Cop := Option.casesOn (motive := fun _ => Cop) x .bad (fun c => c)

/-- the places of the fields of a struct -/
noncomputable def fldPlaces (T : Ty) (l : List Field) : Option (List (Nat × Nat)) :=
  List.rec (motive := fun _ => Option (List (Nat × Nat))) (some []) (fun f _ ih => obind (sizeT T f.type) fun s => obind ih fun r => some ((f.offset, s) :: r)) l
noncomputable def buildC (T : Ty) (t : TypeId) (parts : List (Nat × Operand)) : Cop :=
  ofO <| obind (zeroCells T t) fun zs => obind (T.und t) fun d => match d with
    | .struct fs => obind (fldPlaces T fs.toList) fun pl => obind (placesOf (lget? pl) parts) fun r =>
        some (.pu r.2 (fun vs => obind (fillG r.1 vs zs) fun cs => some (.val (.agg cs))))
    | .array _ e => obind (sizeT T e) fun s => obind (placesOf (fun i => some (Nat.mul i s, s)) parts) fun r =>
        some (.pu r.2 (fun vs => obind (fillG r.1 vs zs) fun cs => some (.val (.agg cs))))
    | _ => Option.none
noncomputable def buildSliceC (T : Ty) (t : TypeId) (len : Nat) (parts : List (Nat × Operand)) : Cop :=
  ofO <| obind (T.und t) fun d => match d with
    | .slice e => obind (sizeT T e) fun s => oif (Nat.ble (Nat.mul len s) 16777216) <| obind (zeroCells T e) fun zs =>
        obind (placesOf (fun i => some (Nat.mul i s, s)) parts) fun r =>
        oif (Nat.beq (llen zs) s) <| some (.pu r.2 (fun vs => obind (fillG r.1 vs (rep zs len)) fun cs => some (.new cs (.slice len len))))
    | _ => Option.none

def asN (v : V) : Option Nat := match v with
  | .int _ (.ofNat n) => some n
  | _ => Option.none

noncomputable def fieldAddrG (off : Nat) (l : List V) : Option NR := match l with
  | [.ptr b o] => some (.val (.ptr b (Nat.add o off)))
  | _ => Option.none
noncomputable def indexAddrG (arr : Option Nat) (size : Nat) (l : List V) : Option NR := match l with
  | [x, i] => obind (asN i) fun i => (match x with
    | .ptr b o => obind arr fun n => oif (Nat.ble (Nat.succ i) n) (some (.val (.ptr b (Nat.add o (Nat.mul i size)))))
    | .slice b o len _ => Option.casesOn (motive := fun _ => Option NR) arr (oif (Nat.ble (Nat.succ i) len) (some (.val (.ptr b (Nat.add o (Nat.mul i size)))))) (fun _ => Option.none)
    | _ => Option.none)
  | _ => Option.none
noncomputable def partG (agg : Bool) (size : Nat) (cs : List V) (off : Nat) : Option NR :=
  Bool.casesOn (motive := fun _ => Option NR) agg (obind (lget? cs off) fun v => some (.val v)) (obind (ltake? (ldrop cs off) size) fun r => some (.val (.agg r)))
noncomputable def fieldG (agg : Bool) (size off : Nat) (l : List V) : Option NR := match l with
  | [.agg cs] => partG agg size cs off
  | _ => Option.none
noncomputable def indexStrG (l : List V) : Option NR := match l with
  | [.str s, i] => obind (asN i) fun i => obind (lget? s i) fun b => some (.val (.int .u8 (.ofNat b.toNat)))
  | _ => Option.none
noncomputable def indexArrG (n : Nat) (agg : Bool) (size : Nat) (l : List V) : Option NR := match l with
  | [.agg cs, i] => obind (asN i) fun i => oif (Nat.ble (Nat.succ i) n) (partG agg size cs (Nat.mul i size))
  | _ => Option.none

/-- bounds of a slice expression: low, high (each may lack), the length and the greatest bound -/
noncomputable def bnds (lo hi : Option V) (len top : Nat) : Option (Nat × Nat) :=
  obind (Option.casesOn (motive := fun _ => Option Nat) hi (some len) asN) fun h =>
  obind (Option.casesOn (motive := fun _ => Option Nat) lo (some 0) asN) fun l =>
  oif (and (Nat.ble h top) (Nat.ble l h)) (some (l, h))
noncomputable def isz (n : Nat) : Bool := Nat.beq n 0
noncomputable def sliceStr (s : List UInt8) (lo hi : Option V) : Option NR :=
  obind (bnds lo hi (llen s) (llen s)) fun r => obind (ltake? (ldrop s r.1) (Nat.sub r.2 r.1)) fun t => some (.val (.str t))
noncomputable def sliceKnown (b o len top size : Nat) (lo hi : Option V) : Option NR :=
  obind (bnds lo hi len top) fun r =>
    some (.val (.slice b (Bool.casesOn (motive := fun _ => Nat) (Nat.beq top r.1) (Nat.add o (Nat.mul r.1 size)) o) (Nat.sub r.2 r.1) (.known (Nat.sub top r.1))))
noncomputable def sliceUnk (b o len : Nat) (c : Cap) (size : Nat) (lo hi : Option V) : Option NR :=
  obind (bnds lo hi len len) fun r =>
    Bool.casesOn (motive := fun _ => Option NR) (or (isz r.1) (Nat.ble (Nat.succ r.1) len)) (some (.val .emp))
      (some (.val (.slice b (Nat.add o (Nat.mul r.1 size)) (Nat.sub r.2 r.1) c)))
noncomputable def sliceG (size : Nat) (x : V) (lo hi mx : Option V) : Option NR :=
  match x with
  | .str s => Option.casesOn (motive := fun _ => Option NR) mx (sliceStr s lo hi) (fun _ => Option.none)
  | .slice b o len c => Option.casesOn (motive := fun _ => Option NR) mx
      (match c with
       | .known n => sliceKnown b o len n size lo hi
       | .grown sz => oif (Nat.beq sz size) (sliceUnk b o len c size lo hi)
       | .opaq => sliceUnk b o len c size lo hi)
      (fun m => obind (asN m) fun m => oif (Nat.ble m (match c with | .known n => n | _ => len)) (sliceKnown b o len m size lo hi))
  | .nils => obind (bnds lo hi 0 0) fun _ => Option.casesOn (motive := fun _ => Option NR) mx (some (.val .nils)) (fun m => obind (asN m) fun m => oif (isz m) (some (.val .nils)))
  | .emp => obind (bnds lo hi 0 0) fun _ => Option.casesOn (motive := fun _ => Option NR) mx (some (.val .emp)) (fun m => obind (asN m) fun m => oif (isz m) (some (.val .emp)))
  | _ => Option.none
noncomputable def sliceTxG (x : V) (lo hi mx : Option V) : Option NR := match x with
  | .str s => sliceG 1 (.str s) lo hi mx
  | _ => Option.none
noncomputable def sliceSlG (size : Nat) (x : V) (lo hi mx : Option V) : Option NR := match x with
  | .str _ => Option.none
  | x => sliceG size x lo hi mx
noncomputable def sliceArrG (n size : Nat) (x : V) (lo hi mx : Option V) : Option NR :=
  match x with
  | .ptr b o => Option.casesOn (motive := fun _ => Option NR) mx (sliceKnown b o n n size lo hi)
      (fun m => obind (asN m) fun m => oif (Nat.ble m n) (sliceKnown b o n m size lo hi))
  | _ => Option.none
/-- the operands of a slice expression, apart -/
noncomputable def slice3 (g : V → Option V → Option V → Option V → Option NR) (lo hi mx : Bool) (l : List V) : Option NR :=
  match l with
  | x :: r =>
    let a := Bool.casesOn (motive := fun _ => Option V × List V) lo (Option.none, r) (match r with | y :: r => (some y, r) | [] => (Option.none, []))
    let b := Bool.casesOn (motive := fun _ => Option V × List V) hi (Option.none, a.2) (match a.2 with | y :: r => (some y, r) | [] => (Option.none, []))
    let c := Bool.casesOn (motive := fun _ => Option V × List V) mx (Option.none, b.2) (match b.2 with | y :: r => (some y, r) | [] => (Option.none, []))
    oif (or (!mx) hi) (g x a.1 b.1 c.1)
  | [] => Option.none

noncomputable def makeSliceG (bytes : Nat) (zs : List V) (l : List V) : Option NR := match l with
  | [x, y] => obind (asN x) fun n => obind (asN y) fun c =>
      oif (and (Nat.ble n c) (Nat.ble (Nat.mul c bytes) 1099511627776)) (oif (Nat.ble c 1099511627776) (some (.new (rep zs c) (.slice n c))))
  | _ => Option.none

/- append and copy -/
noncomputable def lenOfV (v : V) : Option Nat := match v with
  | .slice _ _ n _ => some n
  | .nils => some 0
  | .emp => some 0
  | .str s => some (llen s)
  | _ => Option.none
noncomputable def lmap {α β : Type} (f : α → β) (l : List α) : List β := List.rec (motive := fun _ => List β) [] (fun a _ ih => f a :: ih) l
noncomputable def firstG (H : Heap) (size n : Nat) (v : V) : Option (List V) := match v with
  | .slice b o _ _ => H.loadN b o (Nat.mul n size)
  | .nils => oif (isz n) (some [])
  | .emp => oif (isz n) (some [])
  | .str s => oif (Nat.beq size 1) <| obind (ltake? s n) fun t => some (lmap (fun b => .int .u8 (.ofNat b.toNat)) t)
  | _ => Option.none
/-- a new row, of unknown capacity, as append makes it -/
noncomputable def growG (H : Heap) (size need : Nat) (cs : List V) : Option (V × Heap) :=
  some (.slice H.next 0 need (.grown size), (H.push (.cells cs (Nat.succ H.next))).push (.grp H.next H.next))
noncomputable def fitsN (need bytes : Nat) : Bool := and (Nat.ble need 1099511627776) (Nat.ble (Nat.mul need bytes) 1099511627776)
noncomputable def appendIn (H : Heap) (size : Nat) (b need : Nat) (cs : List V) : Option (V × Heap) :=
  AObj.casesOn (motive := fun _ => Option (V × Heap)) (H.get b) Option.none
    (fun _ g => AObj.casesOn (motive := fun _ => Option (V × Heap)) (H.get g) Option.none (fun _ _ => Option.none)
      (fun leaf _ => oif (and (Nat.beq leaf b) (!(isz g))) (some (.slice H.next 0 need (.grown size), (H.push (.cells cs g)).set g (.grp H.next H.next))))
      (fun _ => Option.none))
    (fun _ _ => Option.none) (fun _ => Option.none)
noncomputable def appendG (size bytes : Nat) (s : V) (n : Nat) (new : List V) (H : Heap) : Option (V × Heap) :=
  Bool.casesOn (motive := fun _ => Option (V × Heap)) (isz n)
    (match s with
     | .nils => oif (fitsN n bytes) (growG H size n new)
     | .slice b o len c =>
       oif (fitsN (Nat.add len n) bytes) <|
       (match c with
        | .known k => Bool.casesOn (motive := fun _ => Option (V × Heap)) (Nat.ble (Nat.add len n) k)
            (obind (H.loadN b o (Nat.mul len size)) fun old => growG H size (Nat.add len n) (lapp old new))
            (obind (H.storeN b (Nat.add o (Nat.mul len size)) new) fun H => some (.slice b o (Nat.add len n) c, H))
        | .grown sz => oif (and (Nat.beq sz size) (allOne new)) (obind (H.loadN b o (Nat.mul len size)) fun old => appendIn H size b (Nat.add len n) (lapp old new))
        | .opaq => Option.none)
     | _ => Option.none)
    (match s with
     | .nils => some (s, H)
     | .slice .. => some (s, H)
     | .emp => some (s, H)
     | _ => Option.none)
noncomputable def appendE (size bytes : Nat) (l : List V) (H : Heap) : Option (V × Heap) := match l with
  | [s, x] => obind (lenOfV x) fun n => obind (firstG H size n x) fun new => appendG size bytes s n new H
  | _ => Option.none
noncomputable def copyE (size : Nat) (l : List V) (H : Heap) : Option (V × Heap) := match l with
  | [.slice b o len _, x] => obind (lenOfV x) fun m => obind (firstG H size (nmin m len) x) fun new =>
      obind (H.storeN b o new) fun H => some (.int .i64 (.ofNat (nmin m len)), H)
  | [.nils, x] => obind (lenOfV x) fun _ => obind (firstG H size 0 x) fun _ => some (.int .i64 (.ofNat 0), H)
  | [.emp, x] => obind (lenOfV x) fun _ => obind (firstG H size 0 x) fun _ => some (.int .i64 (.ofNat 0), H)
  | _ => Option.none

/- maps -/
/-- equality of keys; the keys' shape -/
noncomputable def keyEq (T : Ty) (kt : TypeId) : Option (V → V → Option Bool) :=
  obind (T.und kt) fun d => Bool.casesOn (motive := fun _ => Option (V → V → Option Bool)) (isFlat d)
    (obind (aggKinds T kt) fun ds => some (fun a b => match a with
      | .agg x => (match b with | .agg y => cellsEq ds x y | _ => Option.none)
      | _ => Option.none))
    (some (cellEq d))
noncomputable def mfind (f : V → V → Option Bool) (k : V) (es : List (V × V)) : Nat → Option (Option (Nat × V)) :=
  List.rec (motive := fun _ => Nat → Option (Option (Nat × V))) (fun _ => some Option.none)
    (fun e _ ih i => obind (f k e.1) fun r => Bool.casesOn (motive := fun _ => Option (Option (Nat × V))) r (ih (Nat.succ i)) (some (some (i, e.2)))) es
noncomputable def Heap.map? (H : Heap) (b : Nat) : Option (List (V × V)) :=
  AObj.casesOn (motive := fun _ => Option (List (V × V))) (H.get b) Option.none (fun _ _ => Option.none) (fun _ _ => Option.none) (fun o => match o with | .map es => some es | _ => Option.none)
def mapRes (ok : Bool) (v : V) (there : Bool) : V := match ok with
  | true => .tup [v, .bool there]
  | false => v
noncomputable def lookupG (f : V → V → Option Bool) (z : V) (ok : Bool) (l : List V) (H : Heap) : Option V := match l with
  | [m, k] => obind (f k k) fun _ => (match m with
    | .nilm => some (mapRes ok z false)
    | .map b => obind (H.map? b) fun es => obind (mfind f k es 0) fun r => Option.casesOn (motive := fun _ => Option V) r (some (mapRes ok z false)) (fun q => some (mapRes ok q.2 true))
    | _ => Option.none)
  | _ => Option.none
noncomputable def lset {α : Type} (l : List α) (x : α) : Nat → List α :=
  List.rec (motive := fun _ => Nat → List α) (fun _ => []) (fun a l ih n => Nat.rec (motive := fun _ => List α) (x :: l) (fun m _ => a :: ih m) n) l
noncomputable def updateE (f : V → V → Option Bool) (l : List V) (H : Heap) : Option (V × Heap) := match l with
  | [.map b, k, v] => obind (f k k) fun _ => obind (H.map? b) fun es => obind (mfind f k es 0) fun r =>
      Option.casesOn (motive := fun _ => Option (V × Heap)) r (some (V.undef, H.set b (.oth (.map (lapp es [(k, v)])))))
        (fun q => some (V.undef, H.set b (.oth (.map (lset es (k, v) q.1)))))
  | _ => Option.none
noncomputable def makeMapE (l : List V) (H : Heap) : Option (V × Heap) := match l with
  | [] => some (.map H.next, H.push (.oth (.map [])))
  | _ => Option.none
noncomputable def lenMapG (l : List V) (H : Heap) : Option V := match l with
  | [.nilm] => some (.int .i64 (.ofNat 0))
  | [.map b] => obind (H.map? b) fun es => some (.int .i64 (.ofNat (llen es)))
  | _ => Option.none
/-- the numbers below n, the greatest first -/
noncomputable def upto (n : Nat) : List Nat := Nat.rec (motive := fun _ => List Nat) [] (fun m ih => m :: ih) n
noncomputable def rangeE (l : List V) (H : Heap) : Option (V × Heap) := match l with
  | [.map b] => obind (H.map? b) fun es => some (.ptr H.next 0, H.push (.oth (.iter b (llen es) (upto (llen es)) Option.none (llen es))))
  | _ => Option.none
noncomputable def rangeSE (l : List V) (H : Heap) : Option (V × Heap) := match l with
  | [.str s] => some (.ptr H.next 0, H.push (.oth (.text s 0)))
  | _ => Option.none
noncomputable def nextSE (l : List V) (H : Heap) : Option (V × Heap) := match l with
  | [.ptr b 0] => (match H.get b with
    | .oth (.text s pos) => Option.casesOn (motive := fun _ => Option (V × Heap)) (lget? s pos) (some (.tup [.bool false], H))
        (fun c => oif (Nat.ble (Nat.succ c.toNat) 128) (some (.tup [.bool true, .int .i64 (.ofNat pos), .int .i32 (.ofNat c.toNat)], H.set b (.oth (.text s (Nat.succ pos))))))
    | _ => Option.none)
  | _ => Option.none
noncomputable def entryG (l : List V) (H : Heap) : Option V := match l with
  | [.ptr b 0] => (match H.get b with
    | .oth (.iter m _ _ cur last) => obind (H.map? m) fun es => oif (Nat.beq (llen es) last) <| obind cur fun i => obind (lget? es i) fun e => some (.tup [e.1, e.2])
    | _ => Option.none)
  | _ => Option.none

/- conversions -/
noncomputable def bytesOf (l : List V) : Option (List UInt8) :=
  List.rec (motive := fun _ => Option (List UInt8)) (some []) (fun v _ ih => (match v with
    | .int .u8 (.ofNat n) => oif (Nat.ble (Nat.succ n) 256) (obind ih fun r => some (UInt8.ofNat n :: r))
    | _ => Option.none)) l
noncomputable def toStrG (l : List V) (H : Heap) : Option V := match l with
  | [.nils] => some (.str [])
  | [.emp] => some (.str [])
  | [.slice b o len _] => obind (H.loadN b o len) fun cs => obind (bytesOf cs) fun s => some (.str s)
  | _ => Option.none
noncomputable def toBytesG (l : List V) : Option NR := match l with
  | [.str s] => some (.new (lmap (fun b => .int .u8 (.ofNat b.toNat)) s) (.bytes (llen s)))
  | _ => Option.none
noncomputable def convC (T : Ty) (src dst : TypeId) (xs : List (Fr → V)) : Cop :=
  match T.und src, T.und dst with
  | some (.int _), some (.int k) => .pu xs (fun l => match l with | [.int _ n] => ipu k (wrapK k n) | _ => Option.none)
  | some .string, some .string => .pu xs (fun l => match l with | [.str s] => some (.val (.str s)) | _ => Option.none)
  | some .string, some (.slice e) => (match T.und e with | some (.int .u8) => .pu xs toBytesG | _ => .bad)
  | some (.slice e), some .string => (match T.und e with | some (.int .u8) => .rd xs toStrG | _ => .bad)
  | _, _ => .bad

/- builtins -/
noncomputable def un (f : V → Option NR) (l : List V) : Option NR := match l with
  | [v] => f v
  | _ => Option.none
noncomputable def lenS (v : V) : Option NR := match v with
  | .str s => ipu .i64 (.ofNat (llen s))
  | _ => Option.none
noncomputable def lenL (v : V) : Option NR := match v with
  | .slice _ _ n _ => ipu .i64 (.ofNat n)
  | .nils => ipu .i64 (.ofNat 0)
  | .emp => ipu .i64 (.ofNat 0)
  | _ => Option.none
noncomputable def capL (v : V) : Option NR := match v with
  | .slice _ _ _ c => (match c with | .known n => ipu .i64 (.ofNat n) | _ => Option.none)
  | .nils => ipu .i64 (.ofNat 0)
  | _ => Option.none
def max2 (a b : V) : Option V := match a, b with
  | .int k x, .int _ y => some (.int k (match ilt x y with | true => y | false => x))
  | _, _ => Option.none
def min2 (a b : V) : Option V := match a, b with
  | .int k x, .int _ y => some (.int k (match ilt y x with | true => y | false => x))
  | _, _ => Option.none
noncomputable def foldG (f : V → V → Option V) (l : List V) : Option NR := match l with
  | [] => Option.none
  | x :: r => obind (List.rec (motive := fun _ => V → Option V) (fun a => some a) (fun y _ ih a => obind (f a y) ih) r x) fun v => some (.val v)

noncomputable def hasIntArg (T : Ty) (ts : List TypeId) : Option Bool := obind (lget? ts 1) fun t => obind (T.und t) fun d => match d with
  | .int _ => some true
  | _ => some false
noncomputable def builtinC (T : Ty) (b : Builtin) (ts : List TypeId) (xs : List (Fr → V)) : Cop :=
  ofO <| obind (lget? ts 0) fun t => obind (T.und t) fun d => match b with
    | .len => (match d with
        | .string => some (.pu xs (un lenS))
        | .slice _ => some (.pu xs (un lenL))
        | .array n _ => some (.pu xs (un fun _ => ipu .i64 (.ofNat n)))
        | .map _ _ => some (.rd xs lenMapG)
        | _ => Option.none)
    | .cap => (match d with
        | .slice _ => some (.pu xs (un capL))
        | _ => Option.none)
    | .max => some (.pu xs (foldG max2))
    | .min => some (.pu xs (foldG min2))
    | .append => (match d with
        | .slice e => obind (T.info e) fun i => obind (hasIntArg T ts) fun z => obind (zeroCells T e) fun zs => oif (Nat.beq (llen zs) i.size)
            (oif (!z) (some (.eff xs (appendE i.size i.bytes))))
        | _ => Option.none)
    | .copy => (match d with
        | .slice e => obind (sizeT T e) fun s => some (.eff xs (copyE s))
        | _ => Option.none)
    | _ => Option.none

/- calls -/
noncomputable def callV (l : List V) : Option (Tgt × List V) := match l with
  | .func f first captured :: args => some (.fn f, lapp first (lapp args captured))
  | .yld b :: args => some (.yld b, args)
  | _ => Option.none
/-- a 64-bit number -/
def u64N (v : V) : Option Nat := match v with
  | .int .u64 (.ofNat n) => some n
  | _ => Option.none
noncomputable def nat3 (l : List V) : Option (Nat × Nat × Nat) := match l with
  | [a, b, c] => obind (u64N a) fun x => obind (u64N b) fun y => obind (u64N c) fun z => some (x, y, z)
  | _ => Option.none
noncomputable def add64 (l : List V) : Option NR := obind (nat3 l) fun t => oif (Nat.ble t.2.2 1)
  (some (.val (.tup [.int .u64 (.ofNat (Nat.mod (Nat.add (Nat.add t.1 t.2.1) t.2.2) 18446744073709551616)), .int .u64 (.ofNat (Nat.div (Nat.add (Nat.add t.1 t.2.1) t.2.2) 18446744073709551616))])))
noncomputable def sub64 (l : List V) : Option NR := obind (nat3 l) fun t => oif (Nat.ble t.2.2 1)
  (some (.val (.tup [.int .u64 (.ofNat (Nat.mod (Nat.sub (Nat.sub (Nat.add t.1 18446744073709551616) t.2.1) t.2.2) 18446744073709551616)), .int .u64 (.ofNat (Bool.casesOn (motive := fun _ => Nat) (Nat.ble (Nat.add t.2.1 t.2.2) t.1) 1 0))])))
/-- body-less functions of the library -/
noncomputable def externG (name : String) : Option (List V → Option NR) :=
  if name = "math/bits.Add64" then some add64
  else if name = "math/bits.Sub64" then some sub64
  else Option.none

abbrev Fns := Tr (Option Func)
noncomputable def callC (N : Fns) (T : Ty) (c : Call) : Cop :=
  ofO <| match c.callee with
    | .value (.func f) => obind (N.get Option.none f) fun fn => obind (opds c.args.toList) fun xs => Option.casesOn (motive := fun _ => Option Cop) fn.body
        (oif (fn.origin == "") (obind (externG fn.name) fun g => some (.pu xs g)))
        (fun _ => some (.call xs (fun l => some (.fn f, l))))
    | .value x => obind (opds (x :: c.args.toList)) fun xs => some (.call xs callV)
    | .builtin b => obind (opds c.args.toList) fun xs => some (builtinC T b c.argTypes.toList xs)
    | .invoke _ _ => Option.none

noncomputable def nilCheckG (l : List V) : Option NR := match l with
  | [.ptr b o] => some (.val (.ptr b o))
  | [.func f x y] => some (.val (.func f x y))
  | [.map b] => some (.val (.map b))
  | _ => Option.none
def pickG (l : List V) : Option NR := match l with
  | [.bool true, x, _] => some (.val x)
  | [.bool false, _, x] => some (.val x)
  | _ => Option.none
noncomputable def extractG (i : Nat) (l : List V) : Option NR := match l with
  | [.tup vs] => obind (lget? vs i) fun v => some (.val v)
  | _ => Option.none
def moveG (l : List V) : Option NR := match l with
  | [x] => some (.val x)
  | _ => Option.none
def assignE (l : List V) (H : Heap) : Option (V × Heap) := match l with
  | [x] => some (x, H)
  | _ => Option.none
noncomputable def splitAtN (n : Nat) (l : List V) : Option (List V × List V) := obind (ltake? l n) fun a => some (a, ldrop l n)

noncomputable def oget (x : Option Operand) : List Operand := match x with | some y => [y] | Option.none => []

noncomputable def cop (N : Fns) (T : Ty) (o : Op) : Cop := match o with
  | .move x => ofO (obind (opd x) fun x => some (.pu [x] moveG))
  | .assign x => ofO (obind (opd x) fun x => some (.eff [x] assignE))
  | .pick c a b => ofO (obind (opds [c, a, b]) fun xs => some (.pu xs pickG))
  | .alloc t => ofO (obind (zeroCells T t) fun zs => some (.pu [] (fun l => match l with | [] => some (.new zs .ptr) | _ => Option.none)))
  | .box _ x => ofO (obind (opd x) fun x => some (.pu [x] (fun l => match l with | [v] => oif (kn v) (some (.new (cellsOf v) .ptr)) | _ => Option.none)))
  | .build t parts => buildC T t parts.toList
  | .buildSlice t n parts => buildSliceC T t n parts.toList
  | .load t a => ofO (obind (opd a) fun x => obind (T.isAgg t) fun g => obind (sizeT T t) fun s => some (.rd [x] (loadG g s)))
  | .store t a v => ofO (obind (opds [a, v]) fun xs => obind (sizeT T t) fun s => some (.eff xs (storeG s)))
  | .nilCheck x => ofO (obind (opd x) fun x => some (.pu [x] nilCheckG))
  | .binOp op t x y _ => ofO (obind (opds [x, y]) fun xs => some (binC T op t xs))
  | .unOp op _ x => ofO (obind (opd x) fun x => match op with
      | .neg => some (.pu [x] (fun l => match l with | [.int k n] => ipu k (wrapK k (Int.sub (.ofNat 0) n)) | _ => Option.none))
      | .not => some (.pu [x] (fun l => match l with | [.bool b] => bpu (!b) | _ => Option.none))
      | _ => Option.none)
  | .convert s d x => ofO (obind (opd x) fun x => some (convC T s d [x]))
  | .makeFunc (.func f) first captured => ofO (obind (opds (lapp first.toList captured.toList)) fun xs => some (.pu xs (fun l => obind (splitAtN (llen first.toList) l) fun r => some (.val (.func f r.1 r.2)))))
  | .makeSlice t l c => ofO (obind (opds [l, c]) fun xs => obind (T.und t) fun d => match d with
      | .slice e => obind (T.info e) fun i => obind (zeroCells T e) fun zs => oif (Nat.beq (llen zs) i.size) (some (.pu xs (makeSliceG i.bytes zs)))
      | _ => Option.none)
  | .slice t x lo hi mx => ofO (obind (opds (x :: lapp (oget lo) (lapp (oget hi) (oget mx)))) fun xs => obind (T.und t) fun d => match d with
      | .string => some (.pu xs (slice3 sliceTxG lo.isSome hi.isSome mx.isSome))
      | .slice e => obind (sizeT T e) fun s => some (.pu xs (slice3 (sliceSlG s) lo.isSome hi.isSome mx.isSome))
      | .array n e => obind (sizeT T e) fun s => some (.pu xs (slice3 (sliceArrG n s) lo.isSome hi.isSome mx.isSome))
      | _ => Option.none)
  | .fieldAddr s x f => ofO (obind (opd x) fun x => obind (T.und s) fun d => match d with
      | .struct fs => obind (lget? fs.toList f) fun f => obind (sizeT T f.type) fun n => oif (!(isz n)) (some (.pu [x] (fieldAddrG f.offset)))
      | _ => Option.none)
  | .field s x f => ofO (obind (opd x) fun x => obind (T.und s) fun d => match d with
      | .struct fs => obind (lget? fs.toList f) fun f => obind (sizeT T f.type) fun n => obind (T.isAgg f.type) fun g => some (.pu [x] (fieldG g n f.offset))
      | _ => Option.none)
  | .indexAddr t x i => ofO (obind (opds [x, i]) fun xs => obind (T.und t) fun d => match d with
      | .slice e => obind (sizeT T e) fun s => some (.pu xs (indexAddrG Option.none s))
      | .array n e => obind (sizeT T e) fun s => some (.pu xs (indexAddrG (some n) s))
      | _ => Option.none)
  | .index t x i => ofO (obind (opds [x, i]) fun xs => obind (T.und t) fun d => match d with
      | .string => some (.pu xs indexStrG)
      | .array n e => obind (sizeT T e) fun s => obind (T.isAgg e) fun g => some (.pu xs (indexArrG n g s))
      | _ => Option.none)
  | .extract t i => ofO (obind (opd t) fun x => some (.pu [x] (extractG i)))
  | .makeMap _ r => (match r with | Option.none => .eff [] makeMapE | some _ => .bad)
  | .lookup t x i ok => ofO (obind (opds [x, i]) fun xs => obind (T.und t) fun d => match d with
      | .map kt e => obind (keyEq T kt) fun f => obind (T.info e) fun i => obind i.zero fun z => obind (toV 20 z) fun z => some (.rd xs (lookupG f z ok))
      | _ => Option.none)
  | .mapUpdate t m k v => ofO (obind (opds [m, k, v]) fun xs => obind (T.und t) fun d => match d with
      | .map kt _ => obind (keyEq T kt) fun f => some (.eff xs (updateE f))
      | _ => Option.none)
  | .insert t m k v => ofO (obind (opds [m, k, v]) fun xs => obind (T.und t) fun d => match d with
      | .map kt _ => obind (keyEq T kt) fun f => some (.eff xs (updateE f))
      | _ => Option.none)
  | .range t x => ofO (obind (opd x) fun x => obind (T.und t) fun d => match d with
      | .map _ _ => some (.eff [x] rangeE)
      | .string => some (.eff [x] rangeSE)
      | _ => Option.none)
  | .next x isS => ofO (obind (opd x) fun x => some (Bool.casesOn (motive := fun _ => Cop) isS (.nxt x) (.eff [x] nextSE)))
  | .entry x => ofO (obind (opd x) fun x => some (.rd [x] entryG))
  | .call c => callC N T c
  | _ => .bad
end Go.Ev
/- The abstract evaluator, part D: regions, code, calls. -/
namespace Go.Ev

structure Step where
  want : Fr → Option Bool
  dst : Option Nat
  cop : Cop

inductive Ins where
  | ex (s : Step)
  | re (s : Step)

inductive X where
  | norm | exit (id : Nat) | ret
inductive CR where
  | fail
  | ok (x : X) (F : Fr) (H : Heap)

noncomputable def put (F : Fr) (d : Option Nat) (v : V) : Fr :=
  Option.casesOn (motive := fun _ => Fr) d F (fun t => Tr.setP V.undef v (path t) F)
noncomputable def vals (xs : List (Fr → V)) (F : Fr) : List V := lmap (fun x => x F) xs

abbrev CF := Tgt → List V → Heap → Option (V × Heap)

noncomputable def exec (cf : CF) (s : Step) (F : Fr) (H : Heap) : Option (Fr × Heap) :=
  Option.casesOn (motive := fun _ => Option (Fr × Heap)) (s.want F) Option.none fun wb => Bool.casesOn (motive := fun _ => Option (Fr × Heap)) wb (some (put F s.dst V.undef, H))
    (match s.cop with
     | .bad => Option.none
     | .pu xs g => obind (g (vals xs F)) fun r => NR.casesOn (motive := fun _ => Option (Fr × Heap)) r (fun v => some (put F s.dst v, H)) (fun cs sh => some (put F s.dst (sh.mk H.next), H.push (.cells cs 0)))
     | .rd xs g => obind (g (vals xs F) H) fun v => some (put F s.dst v, H)
     | .eff xs g => obind (g (vals xs F) H) fun r => some (put F s.dst r.1, r.2)
     | .call xs g => obind (g (vals xs F)) fun c => obind (cf c.1 c.2 H) fun r => some (put F s.dst r.1, r.2)
     | .nxt _ => Option.none)

/-- the read once more gives what it gave -/
noncomputable def again (s : Step) (F : Fr) (H : Heap) : Bool :=
  Option.casesOn (motive := fun _ => Bool) (s.want F) false fun wb => Bool.casesOn (motive := fun _ => Bool) wb true
    (match s.cop with
     | .rd xs g => Option.casesOn (motive := fun _ => Bool) (g (vals xs F) H) false (fun v => Option.casesOn (motive := fun _ => Bool) s.dst true (fun t => veq 20 v (Tr.getP V.undef (path t) F)))
     | _ => true)

noncomputable def runIns (cf : CF) (l : List Ins) : Fr → Heap → Option (Fr × Heap) :=
  List.rec (motive := fun _ => Fr → Heap → Option (Fr × Heap)) (fun F H => some (F, H))
    (fun i _ ih F H => Ins.casesOn (motive := fun _ => Option (Fr × Heap)) i (fun s => obind (exec cf s F H) fun r => ih r.1 r.2) (fun s => oif (again s F H) (ih F H))) l

/- the plan of a region -/
def bindsE (e : Edge) : Bool := match e.ground with
  | .textOnly _ => false
  | .gcOnly _ => false
  | _ => true
noncomputable def lany {α : Type} (f : α → Bool) (l : List α) : Bool := List.rec (motive := fun _ => Bool) false (fun a _ ih => or (f a) ih) l
noncomputable def lall {α : Type} (f : α → Bool) (l : List α) : Bool := List.rec (motive := fun _ => Bool) true (fun a _ ih => and (f a) ih) l
noncomputable def lfilter {α : Type} (f : α → Bool) (l : List α) : List α := List.rec (motive := fun _ => List α) [] (fun a _ ih => Bool.casesOn (motive := fun _ => List α) (f a) ih (a :: ih)) l
noncomputable def hasBit (m i : Nat) : Bool := Nat.beq (Nat.mod (Nat.shiftRight m i) 2) 1
/-- the mask of what binds an operation, directly and through others; acc: the masks of the earlier ones -/
noncomputable def maskOf (acc : List Nat) (es : List Edge) : Nat :=
  List.rec (motive := fun _ => Nat) 0 (fun e _ ih => Bool.casesOn (motive := fun _ => Nat) (bindsE e) ih (Nat.lor ih (Nat.lor (Nat.shiftLeft 1 e.on) (lget 0 acc e.on)))) es
noncomputable def masks (ops : List Oper) : List Nat → List Nat :=
  List.rec (motive := fun _ => List Nat → List Nat) (fun acc => acc) (fun o _ ih acc => ih (lapp acc [maskOf acc o.after.toList])) ops
/-- every binding edge leads to an earlier operation -/
noncomputable def edgesOk (ops : List Oper) : Nat → Bool :=
  List.rec (motive := fun _ => Nat → Bool) (fun _ => true) (fun o _ ih i => and (lall (fun e => or (!(bindsE e)) (Nat.ble (Nat.succ e.on) i)) o.after.toList) (ih (Nat.succ i))) ops

def isT (t : Nat) (x : Operand) : Bool := match x with
  | .tmp u => Nat.beq t u
  | _ => false
noncomputable def dstOf (ops : List Oper) (j : Nat) : Option Nat := obind (lget? ops j) fun o => o.dst
def odEq (t : Nat) (d : Option Nat) : Bool := match d with | some u => Nat.beq t u | Option.none => false
noncomputable def reads (ops : List Oper) (o : Oper) (t : Nat) : Bool :=
  or (lany (isT t) o.op.operands.toList) (match o.guard with | some (j, _) => odEq t (dstOf ops j) | Option.none => false)
noncomputable def touches (ops : List Oper) (o : Oper) (t : Nat) : Bool := or (odEq t o.dst) (reads ops o t)

structure Info where
  ix : Nat
  o : Oper
  mask : Nat
  s : Step
  isE : Bool

/-- does a guard let an operation run -/
noncomputable def guardV (b : Bool) (v : V) : Option Bool := match v with
  | .bool x => some (Bool.casesOn (motive := fun _ => Bool) b (!x) x)
  | .any => Option.none
  | .cell => Option.none
  | _ => some false
noncomputable def wantOf (ops : List Oper) (g : Option (Nat × Bool)) : Fr → Option Bool := match g with
  | Option.none => fun _ => some true
  | some (j, b) => Option.casesOn (motive := fun _ => Fr → Option Bool) (dstOf ops j) (fun _ => some false)
      (fun t F => guardV b (Tr.getP V.undef (path t) F))
noncomputable def stepOf (N : Fns) (T : Ty) (ops : List Oper) (o : Oper) : Step := ⟨wantOf ops o.guard, o.dst, cop N T o.op⟩
def isEff (c : Cop) : Bool := match c with | .eff _ _ => true | .call _ _ => true | .nxt _ => true | _ => false
def isRd (c : Cop) : Bool := match c with | .rd _ _ => true | _ => false
noncomputable def infos (N : Fns) (T : Ty) (all : List Oper) (ops : List Oper) : List Nat → Nat → List Info :=
  List.rec (motive := fun _ => List Nat → Nat → List Info) (fun _ _ => [])
    (fun o _ ih ms i => ⟨i, o, lget 0 ms 0, stepOf N T all o, isEff (cop N T o.op)⟩ :: ih (ldrop ms 1) (Nat.succ i)) ops

/-- two operations at one temporary, of which one writes it, are ordered -/
noncomputable def tmpsOk (ops : List Oper) (l : List Info) : Bool :=
  lall (fun k => match k.o.dst with
    | Option.none => k.isE
    | some t => and (or k.isE (!(reads ops k.o t))) (lall (fun i => or (Nat.beq i.ix k.ix) (or (!(touches ops i.o t)) (or (hasBit i.mask k.ix) (and k.isE (hasBit k.mask i.ix))))) l)) l
noncomputable def chainOk (l : List Info) : Bool :=
  List.rec (motive := fun _ => Bool) true (fun a l ih => and ih (List.casesOn (motive := fun _ => Bool) l true (fun b _ => hasBit b.mask a.ix))) l
noncomputable def countE (es : List Info) (m : Nat) : Nat := List.rec (motive := fun _ => Nat) 0 (fun e _ ih => Bool.casesOn (motive := fun _ => Nat) (hasBit m e.ix) ih (Nat.succ ih)) es
noncomputable def atStage (l es : List Info) (j : Nat) : List Info := lfilter (fun i => and (!i.isE) (Nat.beq (countE es i.mask) j)) l
/-- the instructions from stage j on; es: all the effects, r: those still to come -/
noncomputable def stages (l es : List Info) (r : List Info) : Nat → List Ins :=
  List.rec (motive := fun _ => Nat → List Ins) (fun j => lmap (fun i => Ins.ex i.s) (atStage l es j))
    (fun e _ ih j => lapp (lmap (fun i => Ins.ex i.s) (atStage l es j)) (Ins.ex e.s :: lapp
      (lmap (fun i => Ins.re i.s) (lfilter (fun i => and (!i.isE) (and (isRd i.s.cop) (and (Nat.ble (countE es i.mask) j) (!(hasBit e.mask i.ix))))) l)) (ih (Nat.succ j)))) r
noncomputable def plan (N : Fns) (T : Ty) (ops : List Oper) (draw : Bool) : Option (List Ins) :=
  Bool.casesOn (motive := fun _ => Option (List Ins)) draw (some (lmap (fun o => Ins.ex (stepOf N T ops o)) ops))
    (let l := infos N T ops ops (masks ops []) 0
     let es := lfilter (fun i => i.isE) l
     oif (and (edgesOk ops 0) (and (tmpsOk ops l) (chainOk es))) (some (stages l es es 0)))

/- well-formed temporaries -/
def opdOk (G n : Nat) (x : Operand) : Bool := match x with
  | .tmp t => Nat.ble (Nat.succ t) n
  | .global g => Nat.ble (Nat.succ g) G
  | _ => true
def odOk (n : Nat) (d : Option Nat) : Bool := match d with | some t => Nat.ble (Nat.succ t) n | Option.none => true
noncomputable def operOk (G n : Nat) (o : Oper) : Bool := and (odOk n o.dst) (lall (opdOk G n) o.op.operands.toList)
noncomputable def codeOk (G n : Nat) (c : Code) : Bool :=
  Code.rec (motive := fun _ => Bool) true (fun _ ops _ => lall (operOk G n) ops.toList) (fun _ _ a b => and a b) (fun x _ _ a b => and (opdOk G n x) (and a b)) (fun _ _ a => a) (fun _ a => a)
    (fun g _ _ _ a b => and (opdOk G n g) (and a b)) (fun _ => true) (fun _ a => a) (fun _ => true) (fun _ => true) true (fun _ => true) c
def resOk (n : Nat) (r : ResultVar) : Bool := match r with
  | .tmp t => Nat.ble (Nat.succ t) n
  | .cell a _ => Nat.ble (Nat.succ a) n
noncomputable def fnOk (G : Nat) (fn : Func) (c : Code) : Bool := and (!(fn.name == "runtime.NumGoroutine")) (and (codeOk G fn.ntmps c) (lall (resOk fn.ntmps) fn.results.toList))

/- results of a function -/
noncomputable def resV (T : Ty) (F : Fr) (H : Heap) (r : ResultVar) : Option V := match r with
  | .tmp t => some (Tr.getP V.undef (path t) F)
  | .cell a t => obind (T.isAgg t) fun g => obind (sizeT T t) fun s => loadG g s [Tr.getP V.undef (path a) F] H
noncomputable def resL (T : Ty) (F : Fr) (H : Heap) (l : List ResultVar) : Option (List V) :=
  List.rec (motive := fun _ => Option (List V)) (some []) (fun r _ ih => obind (resV T F H r) fun v => obind ih fun r => some (v :: r)) l
def resM (l : List V) : V := match l with
  | [v] => v
  | l => .tup l

/-- the arguments laid into a new frame -/
noncomputable def frame0 (args : List V) : Nat → Fr → Fr :=
  List.rec (motive := fun _ => Nat → Fr → Fr) (fun _ F => F) (fun v _ ih i F => ih (Nat.succ i) (Tr.setP V.undef v (path i) F)) args

/-- the code of a function: the number of its temporaries; in a round of a loop over a function or not -/
abbrev RF := Nat → Bool → Code → Fr → Heap → CR

noncomputable def callF (G : Nat) (N : Fns) (T : Ty) (run : RF) (f : FuncId) (args : List V) (H : Heap) : Option (V × Heap) :=
  obind (N.get Option.none f) fun fn => obind fn.body fun c => oif (and (fnOk G fn c) (Nat.ble (llen args) fn.ntmps))
    (CR.casesOn (motive := fun _ => Option (V × Heap)) (run fn.ntmps false c (frame0 args 0 .nil) H) Option.none
      (fun x F H => (match x with
        | .exit _ => Option.none
        | _ => obind (resL T F H fn.results.toList) fun l => some (resM l, H))))
noncomputable def Heap.loop? (H : Heap) (b : Nat) : Option ALoop :=
  AObj.casesOn (motive := fun _ => Option ALoop) (H.get b) Option.none (fun _ _ => Option.none) (fun _ _ => Option.none) (fun o => match o with | .loop l => some l | _ => Option.none)
/-- the parameters of a round laid into its frame -/
noncomputable def params0 (ps : List Nat) : List V → Fr → Option Fr :=
  List.rec (motive := fun _ => List V → Fr → Option Fr) (fun vs F => List.casesOn (motive := fun _ => Option Fr) vs (some F) (fun _ _ => Option.none))
    (fun p _ ih vs F => List.casesOn (motive := fun _ => Option Fr) vs Option.none (fun v vs => ih vs (Tr.setP V.undef v (path p) F))) ps
/-- how a round ends: the jump that is pending -/
def jumpOf (x : X) : Option Code := match x with
  | .norm => Option.none
  | .exit id => some (.exit id)
  | .ret => some .ret
def stAfter (x : X) : Nat := match x with | .norm => 0 | _ => 2
def isN (x : X) : Bool := match x with | .norm => true | _ => false
noncomputable def callY (G : Nat) (run : RF) (b : Nat) (args : List V) (H : Heap) : Option (V × Heap) :=
  obind (H.loop? b) fun L => oif (and (codeOk G L.n L.assign) (codeOk G L.n L.body)) <| obind (params0 L.params args L.F) fun F =>
    CR.casesOn (motive := fun _ => Option (V × Heap)) (run L.n true L.assign F H) Option.none (fun x F H => oif (isN x) <|
      obind (H.loop? b) fun L1 => oif (Nat.beq L1.st 0) <|
        CR.casesOn (motive := fun _ => Option (V × Heap)) (run L.n true L.body F (H.set b (.oth (.loop { L1 with st := 1 })))) Option.none (fun x _ H =>
          obind (H.loop? b) fun L => some (.bool (isN x), H.set b (.oth (.loop { L with st := stAfter x, pend := jumpOf x })))))
noncomputable def callW (G : Nat) (N : Fns) (T : Ty) (O : CF) (run : RF) : CF := fun t args H =>
  Option.casesOn (motive := fun _ => Option (V × Heap)) (O t args H)
    (Tgt.casesOn (motive := fun _ => Option (V × Heap)) t (fun f => callF G N T run f args H) (fun b => callY G run b args H)) some

noncomputable def andThen (r : CR) (k : Fr → Heap → CR) : CR :=
  CR.casesOn (motive := fun _ => CR) r .fail (fun x F H => X.casesOn (motive := fun _ => CR) x (k F H) (fun id => .ok (.exit id) F H) (.ok .ret F H))
noncomputable def inBlk (id : Nat) (r : CR) : CR :=
  CR.casesOn (motive := fun _ => CR) r .fail (fun x F H => X.casesOn (motive := fun _ => CR) x (.ok .norm F H)
    (fun i => Bool.casesOn (motive := fun _ => CR) (Nat.beq i id) (.ok (.exit i) F H) (.ok .norm F H)) (.ok .ret F H))
noncomputable def regW (o : Option (Fr × Heap)) : CR := Option.casesOn (motive := fun _ => CR) o .fail (fun r => .ok .norm r.1 r.2)

noncomputable def runRegion (N : Fns) (T : Ty) (cf : CF) (ops : Array Oper) (draw : Bool) (F : Fr) (H : Heap) : CR :=
  regW (obind (plan N T ops.toList draw) fun l => runIns cf l F H)
noncomputable def runCond (run : Code → Fr → Heap → CR) (c : Operand) (a b : Code) (F : Fr) (H : Heap) : CR :=
  Option.casesOn (motive := fun _ => CR) (opd c) .fail (fun x => (match x F with
    | .bool t => Bool.casesOn (motive := fun _ => CR) t (run b F H) (run a F H)
    | _ => .fail))
/-- a loop over a function -/
noncomputable def runRange (n : Nat) (cf : CF) (g : Operand) (ps : Array Nat) (assign body : Code) (F : Fr) (H : Heap) : CR :=
  Option.casesOn (motive := fun _ => CR) (opd g) .fail (fun x => (match x F with
    | .func f first captured => Option.casesOn (motive := fun _ => CR) (cf (.fn f) (lapp first (lapp [.yld H.next] captured)) (H.push (.oth (.loop ⟨n, F, ps.toList, assign, body, 0, Option.none⟩)))) .fail (fun r =>
        Option.casesOn (motive := fun _ => CR) (Heap.loop? r.2 H.next) .fail (fun L => Bool.casesOn (motive := fun _ => CR) (Nat.beq L.st 1)
          (match L.pend with
           | Option.none => .ok .norm F (r.2.set H.next (.oth (.loop { L with st := 3 })))
           | some (.exit id) => .ok (.exit id) F (r.2.set H.next (.oth (.loop { L with st := 3 })))
           | some .ret => .ok .ret F (r.2.set H.next (.oth (.loop { L with st := 3 })))
           | _ => .fail) .fail))
    | _ => .fail))

noncomputable def run (G : Nat) (N : Fns) (T : Ty) (O : CF) (fuel : Nat) : RF :=
  Nat.rec (motive := fun _ => RF) (fun _ _ _ _ _ => .fail) (fun _ ih n rd c F H =>
    Code.casesOn (motive := fun _ => CR) c (.ok .norm F H)
      (fun _ ops draw => runRegion N T (callW G N T O ih) ops draw F H)
      (fun a b => andThen (ih n rd a F H) (ih n rd b))
      (fun x a b => runCond (ih n rd) x a b F H)
      (fun id b => inBlk id (ih n rd b F H))
      (fun b => andThen (ih n rd b F H) (ih n rd (.loop b)))
      (fun g ps assign body => Bool.casesOn (motive := fun _ => CR) rd (runRange n (callW G N T O ih) g ps assign body F H) .fail)
      (fun id => .ok (.exit id) F H)
      (fun c => Bool.casesOn (motive := fun _ => CR) rd (ih n false c F H) .fail)
      (fun _ => .ok .norm F H)
      (fun _ => .fail)
      (.ok .ret F H)
      (fun _ => .fail)) fuel
noncomputable def callE (G : Nat) (N : Fns) (T : Ty) (O : CF) (fuel : Nat) : CF := callW G N T O (run G N T O fuel)
/-- no other knowledge of calls -/
def noO : CF := fun _ _ _ => Option.none

/- tables -/
noncomputable def trOf {α : Type} (l : List α) : Nat → Tr (Option α) → Tr (Option α) :=
  List.rec (motive := fun _ => Nat → Tr (Option α) → Tr (Option α)) (fun _ t => t) (fun a _ ih i t => ih (Nat.succ i) (Tr.setP Option.none (some a) (path i) t)) l
noncomputable def trBy (f : Nat → Bool) (l : List TypeInfo) : Nat → Tr Bool → Tr Bool :=
  List.rec (motive := fun _ => Nat → Tr Bool → Tr Bool) (fun _ t => t) (fun _ _ ih i t => ih (Nat.succ i) (Tr.setP false (f i) (path i) t)) l
noncomputable def fnsOf (P : Program) : Fns := trOf P.funcs.toList 0 .nil
noncomputable def tysOf (P : Program) : Ty := ⟨trOf P.types.toList 0 .nil, trBy (fun t => !(P.stoodInHeld t)) P.types.toList 0 .nil⟩
end Go.Ev
