/- The ground of the proof of LowerShapes: the program's tables, the oracles, and how a list of known calls is checked. -/
import Derived.Test.YtofkmenlcnjolaaGreatDoorProg
import Derived.Test.YtofkmenlcnjolaaGreatDoorE9
namespace Go.Proofs.YtofkmenlcnjolaaGreatDoor
open Go.Ev
def nums (k : IntKind) (l : List Nat) : List V := l.map fun n => .int k (.ofNat n)
def tab64 : List V := nums .u8 [0, 1, 56, 2, 57, 49, 28, 3, 61, 58, 42, 50, 38, 29, 17, 4, 62, 47, 59, 36, 45, 43, 51, 22, 53, 39, 33, 30, 24, 18, 12, 5, 63, 55, 48, 27, 60, 41, 37, 16, 46, 35, 44, 21, 52, 32, 23, 11, 54, 26, 40, 15, 34, 20, 31, 10, 25, 14, 19, 9, 13, 8, 7, 6]
def pow10 : List V := nums .u64 [1, 10, 100, 1000, 10000, 100000, 1000000, 10000000, 100000000, 1000000000, 10000000000, 100000000000, 1000000000000, 10000000000000, 100000000000000, 1000000000000000, 10000000000000000, 100000000000000000, 1000000000000000000, 10000000000000000000]
def tab32 : List V := nums .u8 [0, 1, 28, 2, 29, 14, 24, 3, 30, 22, 20, 15, 25, 17, 4, 8, 31, 27, 13, 23, 21, 19, 16, 7, 26, 12, 18, 6, 11, 5, 10, 9]
noncomputable def gl : List AObj := [.cells pow10 0, .cells tab64 0, .none, .none, .cells tab32 0, .none, .none, .none]
noncomputable def gl0 : List AObj := [.none, .none, .none, .none, .none, .none, .none, .none]
def I (n : Nat) : V := .int .i64 (.ofNat n)
def J (n : Nat) : V := .int .i64 (.negSucc n)
def U (n : Nat) : V := .int .u64 (.ofNat n)
def W (n : Nat) : V := .int .u32 (.ofNat n)
def B (n : Nat) : V := .int .u8 (.ofNat n)
def C (l : List V) : AObj := .cells l 0
def S (b o l : Nat) : V := .slice b o l .opaq
def K (b o l c : Nat) : V := .slice b o l (.known c)
def G (b o l c : Nat) : V := .slice b o l (.grown c)
def A (l : List V) : V := .agg l
def T (l : List V) : V := .tup l
def o : V := .bool false
def i : V := .bool true
def z : V := .nils
def q : Cap := .opaq
def okPoly : V := .tup [.agg [.int .i64 (.ofNat 1), .cell], .int .i64 (.ofNat 0)]
noncomputable def hnt : Hint := fun n id => Bool.casesOn (motive := fun _ => Option (List Nat)) (and (Nat.beq n 56) (Nat.beq id 13)) Option.none (some [8, 40])
noncomputable def wk : Weak := fun f => Bool.casesOn (motive := fun _ => Option (V → V)) (or (Nat.beq f 69) (Nat.beq f 23)) Option.none (some fun _ => okPoly)
noncomputable def orA (es : List Ent) : CA := callA 8 (fnsOf Tryz.prog) (tysOf Tryz.prog) (ofE (tabO 8 (tabOf (tabT es)) noO)) wk hnt 400
noncomputable def or69 (es : List Ent) : CF := fun t args H =>
  Tgt.casesOn (motive := fun _ => Option (V × Heap)) t (fun f => Bool.casesOn (motive := fun _ => Option (V × Heap)) (Nat.beq f 69) Option.none (ofA (orA es) (.fn f) args H)) (fun _ => Option.none)
noncomputable def cfF (es : List Ent) : CF := callE 8 (fnsOf Tryz.prog) (tysOf Tryz.prog) (tabO 8 (tabOf (tabT es)) (or69 es)) 400
noncomputable def cfE (es : List Ent) : CA := ofE (cfF es)
noncomputable def cfA (es : List Ent) : CA := orA es
theorem hmix : Tryz.prog.follows .mixedOrders = true := by kernel_rfl
theorem noEnt : ∀ e ∈ ([] : List Ent), EntOk Tryz.prog 8 e := fun _ h => by cases h
theorem memApp {a b : List Ent} (ha : ∀ e ∈ a, EntOk Tryz.prog 8 e) (hb : ∀ e ∈ b, EntOk Tryz.prog 8 e) : ∀ e ∈ lapp a b, EntOk Tryz.prog 8 e := fun e he => by
  rw [lapp_eq] at he
  rcases List.mem_append.1 he with h | h
  · exact ha e h
  · exact hb e h
theorem cons1 {e : Ent} {es : List Ent} (h : EntOk Tryz.prog 8 e) (hs : ∀ x ∈ es, EntOk Tryz.prog 8 x) : ∀ x ∈ e :: es, EntOk Tryz.prog 8 x := fun x hx => by
  cases hx with
  | head => exact h
  | tail _ hx => exact hs x hx
theorem at1 {es : List Ent} (h : ∀ e ∈ es, EntOk Tryz.prog 8 e) (n : Nat) {e : Ent} (he : es[n]? = some e) : EntOk Tryz.prog 8 e := h e (List.mem_of_getElem? he)
theorem orA_ok {es : List Ent} (h : ∀ e ∈ es, EntOk Tryz.prog 8 e) : CAOk Tryz.prog 8 (orA es) :=
  callA_ok (tys_ok _) (fns_ok _) (ofE_ok (tabT_ok h noO_ok)) hmix 400
theorem or69_ok {es : List Ent} (h : ∀ e ∈ es, EntOk Tryz.prog 8 e) : CFOk Tryz.prog 8 (or69 es) := by
  intro t args H v H' ho
  cases t with
  | yld b => cases ho
  | fn f =>
    have ho' : Bool.casesOn (motive := fun _ => Option (V × Heap)) (Nat.beq f 69) Option.none (ofA (orA es) (.fn f) args H) = some (v, H') := ho
    cases hf : Nat.beq f 69 with
    | false => rw [hf] at ho'; cases ho'
    | true => rw [hf] at ho'; exact ofA_ok (orA_ok h) ho'
theorem cfF_ok {es : List Ent} (h : ∀ e ∈ es, EntOk Tryz.prog 8 e) : CFOk Tryz.prog 8 (cfF es) := call_ok (tys_ok _) (fns_ok _) (tabT_ok h (or69_ok h)) hmix 400
theorem mkOk {deps es : List Ent} (hd : ∀ e ∈ deps, EntOk Tryz.prog 8 e) (h : lall (entB (cfE deps)) es = true) : ∀ e ∈ es, EntOk Tryz.prog 8 e := ents_ok (ofE_ok (cfF_ok hd)) h
theorem mkOkA {deps es : List Ent} (hd : ∀ e ∈ deps, EntOk Tryz.prog 8 e) (h : lall (entB (cfA deps)) es = true) : ∀ e ∈ es, EntOk Tryz.prog 8 e := ents_ok (orA_ok hd) h
end Go.Proofs.YtofkmenlcnjolaaGreatDoor
