/- LowerShapes in a world: it returns true, and nothing that was there is changed. -/
import Derived.Test.YtofkmenlcnjolaaGreatDoorHw
namespace Go.Proofs.YtofkmenlcnjolaaGreatDoor
open Go.Ev
open Go.RowKit (Below)
def L0 : List Nat := [1, 10, 100, 1000, 10000, 100000, 1000000, 10000000, 100000000, 1000000000, 10000000000, 100000000000, 1000000000000, 10000000000000, 100000000000000, 1000000000000000, 10000000000000000, 100000000000000000, 1000000000000000000, 10000000000000000000]
def L1 : List Nat := [0, 1, 56, 2, 57, 49, 28, 3, 61, 58, 42, 50, 38, 29, 17, 4, 62, 47, 59, 36, 45, 43, 51, 22, 53, 39, 33, 30, 24, 18, 12, 5, 63, 55, 48, 27, 60, 41, 37, 16, 46, 35, 44, 21, 52, 32, 23, 11, 54, 26, 40, 15, 34, 20, 31, 10, 25, 14, 19, 9, 13, 8, 7, 6]
def L4 : List Nat := [0, 1, 28, 2, 29, 14, 24, 3, 30, 22, 20, 15, 25, 17, 4, 8, 31, 27, 13, 23, 21, 19, 16, 7, 26, 12, 18, 6, 11, 5, 10, 9]
theorem pow10_eq : pow10 = nums .u64 L0 := rfl
theorem tab64_eq : tab64 = nums .u8 L1 := rfl
theorem tab32_eq : tab32 = nums .u8 L4 := rfl
def vls (k : IntKind) (l : List Nat) : Array Value := (l.map fun n => Value.int k (.ofNat n)).toArray
/-- a table in the heap -/
def TabAt (w : World) (g : Nat) (k : IntKind) (l : List Nat) : Prop := ∃ t, w.heap[g]? = some (.cells (vls k l) t (0, 0))
theorem nums_get {k : IntKind} {l : List Nat} {i : Nat} {v : V} (h : (nums k l)[i]? = some v) : ∃ n, l[i]? = some n ∧ v = .int k (.ofNat n) := by
  unfold nums at h
  rw [List.getElem?_map] at h
  cases hl : l[i]? with
  | none => rw [hl] at h; cases h
  | some n => rw [hl] at h; cases h; exact ⟨n, rfl, rfl⟩
theorem TabAt.cell {w : World} {g : Nat} {k : IntKind} {l : List Nat} (h : TabAt w g k l) {i n : Nat} (hi : l[i]? = some n) : w.cell? ⟨g, i, none⟩ = some (.int k (.ofNat n)) ∧ w.frozen? ⟨g, i, none⟩ = false := by
  obtain ⟨t, h⟩ := h
  unfold World.cell? World.frozen?
  simp only [h]
  refine ⟨?_, by simp⟩
  simp [vls, hi]
def lim9 (b : Nat) : Nat := if b = 0 then 20 else if b = 1 then 64 else if b = 4 then 32 else 0
def phi9 (l8 : Option Ev.Loc) : Phi := fun b => if b < 8 then some ⟨b, 0, lim9 b⟩ else if b = 8 then l8 else none
/-- what is known of the world at the call's start -/
structure Start (w : World) (p : Pk) (l8 : Option Ev.Loc) : Prop where
  t0 : TabAt w 0 .u64 L0
  t1 : TabAt w 1 .u8 L1
  t4 : TabAt w 4 .u8 L4
  x2 : w.heap[2]? = some p.x2
  x3 : w.heap[3]? = some p.x3
  x5 : w.heap[5]? = some p.x5
  x6 : w.heap[6]? = some p.x6
  x7 : w.heap[7]? = some p.x7
  lb : (l8 = none ∧ p.lb = .none) ∨ ∃ c x, l8 = some ⟨c, 0, 0⟩ ∧ 8 ≤ c ∧ w.heap[c]? = some x ∧ p.lb = .oth (.ro x)
theorem phi9_lt {l8 : Option Ev.Loc} {b : Nat} (h : b < 8) : phi9 l8 b = some ⟨b, 0, lim9 b⟩ := by unfold phi9; rw [if_pos h]
theorem phi9_8 {l8 : Option Ev.Loc} : phi9 l8 8 = l8 := rfl
theorem phi9_some {w : World} {p : Pk} {l8 : Option Ev.Loc} (hS : Start w p l8) {b : Nat} {l : Ev.Loc} (h : phi9 l8 b = some l) : (b < 8 ∧ l = ⟨b, 0, lim9 b⟩) ∨ (b = 8 ∧ l.base = 0 ∧ l.lim = 0 ∧ 8 ≤ l.c ∧ ∃ x, w.heap[l.c]? = some x ∧ p.lb = .oth (.ro x)) := by
  unfold phi9 at h
  split at h
  · cases h; exact .inl ⟨by assumption, rfl⟩
  · split at h
    · rename_i e
      rcases hS.lb with ⟨h1, _⟩ | ⟨c, x, h1, h2, h3, h4⟩
      · rw [h1] at h; cases h
      · rw [h1] at h; cases h; exact .inr ⟨e, rfl, rfl, h2, x, h3, h4⟩
    · cases h
theorem get9 (p : Pk) (b : Nat) : (mkH (g9 p)).get b = ((g9 p)[b]?).getD .none := mkH_get _ _
theorem get9_cells {w : World} {p : Pk} {l8 : Option Ev.Loc} (hS : Start w p l8) {b g : Nat} {cs : List V} (h : (mkH (g9 p)).get b = .cells cs g) : g = 0 ∧ ∃ k L, TabAt w b k L ∧ cs = nums k L ∧ b < 8 ∧ L.length = lim9 b := by
  rw [get9] at h
  match b, h with
  | 0, h => cases h; exact ⟨rfl, .u64, L0, hS.t0, rfl, by omega, rfl⟩
  | 1, h => cases h; exact ⟨rfl, .u8, L1, hS.t1, rfl, by omega, rfl⟩
  | 2, h => cases h
  | 3, h => cases h
  | 4, h => cases h; exact ⟨rfl, .u8, L4, hS.t4, rfl, by omega, rfl⟩
  | 5, h => cases h
  | 6, h => cases h
  | 7, h => cases h
  | 8, h =>
    have h' : p.lb = .cells cs g := h
    rcases hS.lb with ⟨_, h4⟩ | ⟨_, _, _, _, _, h4⟩ <;> rw [h4] at h' <;> cases h'
  | b + 9, h => cases h
theorem get9_grp {w : World} {p : Pk} {l8 : Option Ev.Loc} (hS : Start w p l8) {b x y : Nat} (h : (mkH (g9 p)).get b = .grp x y) : False := by
  rw [get9] at h
  match b, h with
  | 0, h => cases h
  | 1, h => cases h
  | 2, h => cases h
  | 3, h => cases h
  | 4, h => cases h
  | 5, h => cases h
  | 6, h => cases h
  | 7, h => cases h
  | 8, h =>
    have h' : p.lb = .grp x y := h
    rcases hS.lb with ⟨_, h4⟩ | ⟨_, _, _, _, _, h4⟩ <;> rw [h4] at h' <;> cases h'
  | b + 9, h => cases h
theorem get9_oth {w : World} {p : Pk} {l8 : Option Ev.Loc} (hS : Start w p l8) {b : Nat} {o : Oth} {l : Ev.Loc} (hφ : phi9 l8 b = some l) (h : (mkH (g9 p)).get b = .oth o) : l.base = 0 ∧ ∃ x, o = .ro x ∧ w.heap[l.c]? = some x := by
  rw [get9] at h
  match b, hφ, h with
  | 0, _, h => cases h
  | 1, _, h => cases h
  | 2, hφ, h => cases h; cases hφ; exact ⟨rfl, _, rfl, hS.x2⟩
  | 3, hφ, h => cases h; cases hφ; exact ⟨rfl, _, rfl, hS.x3⟩
  | 4, _, h => cases h
  | 5, hφ, h => cases h; cases hφ; exact ⟨rfl, _, rfl, hS.x5⟩
  | 6, hφ, h => cases h; cases hφ; exact ⟨rfl, _, rfl, hS.x6⟩
  | 7, hφ, h => cases h; cases hφ; exact ⟨rfl, _, rfl, hS.x7⟩
  | 8, hφ, h =>
    have h' : p.lb = .oth o := h
    rcases phi9_some hS hφ with ⟨h1, _⟩ | ⟨_, h1, _, _, x, h2, h3⟩
    · omega
    · rw [h3] at h'; cases h'; exact ⟨h1, x, rfl, h2⟩
  | b + 9, _, h => cases h
theorem Start.size {w : World} {p : Pk} {l8 : Option Ev.Loc} (hS : Start w p l8) : 8 ≤ w.heap.size := by
  have := (Array.getElem?_eq_some_iff.1 hS.x7).1
  omega
theorem glob9 (l8 : Option Ev.Loc) : GlobOk 8 (phi9 l8) := fun _ hg => ⟨_, phi9_lt hg⟩
theorem lim9_room {w : World} {p : Pk} {l8 : Option Ev.Loc} (hS : Start w p l8) {b i : Nat} (hi : i < lim9 b) : (∃ v', w.cell? ⟨b, i, none⟩ = some v') ∧ w.frozen? ⟨b, i, none⟩ = false := by
  have tab : ∀ {g : Nat} {k : IntKind} {L : List Nat}, TabAt w g k L → i < L.length → (∃ v', w.cell? ⟨g, i, none⟩ = some v') ∧ w.frozen? ⟨g, i, none⟩ = false := by
    intro g k L h hi
    have := h.cell (List.getElem?_eq_getElem hi)
    exact ⟨⟨_, this.1⟩, this.2⟩
  unfold lim9 at hi
  split at hi
  · rename_i e; subst e; exact tab hS.t0 hi
  · split at hi
    · rename_i e; subst e; exact tab hS.t1 hi
    · split at hi
      · rename_i e; subst e; exact tab hS.t4 hi
      · omega
theorem rel9 {w : World} {p : Pk} {l8 : Option Ev.Loc} (hS : Start w p l8) : Rel (phi9 l8) (mkH (g9 p)) w := by
  refine ⟨?_, ?_, ?_, ?_, ?_, ?_, ?_, ?_, ?_⟩
  · intro b l cs g i v e1 e2 _ e4
    obtain ⟨_, k, L, h1, rfl, h3, _⟩ := get9_cells hS e2
    rw [phi9_lt h3] at e1
    cases e1
    obtain ⟨n, hn, rfl⟩ := nums_get e4
    refine ⟨_, ?_, .int k (.ofNat n)⟩
    rw [Nat.zero_add]
    exact (h1.cell hn).1
  · intro b l i e1 hi
    rcases phi9_some hS e1 with ⟨_, rfl⟩ | ⟨_, _, h, _⟩
    · rw [Nat.zero_add]; exact lim9_room hS hi
    · omega
  · intro b l cs g e1 e2
    obtain ⟨_, k, L, h1, rfl, h3, h4⟩ := get9_cells hS e2
    rw [phi9_lt h3] at e1
    cases e1
    unfold nums
    rw [List.length_map, h4]
    exact Nat.le_refl _
  · intro b b' l l' e1 e2 e3 e4
    exfalso
    rcases phi9_some hS e1 with ⟨h1, rfl⟩ | ⟨rfl, _, _, h1, _⟩ <;> rcases phi9_some hS e2 with ⟨h2, rfl⟩ | ⟨rfl, _, _, h2, _⟩
    · exact e4 e3
    · have : b = l'.c := e3; omega
    · have : l.c = b' := e3; omega
    · exact e4 rfl
  · intro b hb
    have hb' : 9 ≤ b := hb
    refine ⟨?_, ?_⟩
    · unfold phi9; rw [if_neg (by omega), if_neg (by omega)]
    · rw [get9, List.getElem?_eq_none (show (g9 p).length ≤ b from hb')]; rfl
  · intro b l e1
    have := hS.size
    rcases phi9_some hS e1 with ⟨h1, rfl⟩ | ⟨_, _, _, _, x, hx, _⟩
    · exact Nat.lt_of_lt_of_le h1 this
    · exact (Array.getElem?_eq_some_iff.1 hx).1
  · intro b cs g leaf fl e1 e2
    exact absurd (get9_cells hS e1).1 e2
  · intro g leaf fl e1
    exact (get9_grp hS e1).elim
  · intro b l o e1 e2
    obtain ⟨h1, x, rfl, h2⟩ := get9_oth hS e1 e2
    exact ⟨h1, h2⟩
/-- a table is as it was -/
theorem tab_same {w w' : World} {ψ : Phi} {H' : Heap} {g n : Nat} {k : IntKind} {L : List Nat} (hr : Rel ψ H' w') (hs : Same w w') (hψ : ψ g = some ⟨g, 0, n⟩) (hH : H'.get g = .cells (nums k L) 0) (h : TabAt w g k L) : w'.heap[g]? = w.heap[g]? := by
  obtain ⟨t, h0⟩ := h
  obtain ⟨cs', h1, h2⟩ := hs.shape g _ t (0, 0) h0
  rw [h1, h0]
  have : cs' = vls k L := by
    refine Array.ext h2 ?_
    intro i hi1 hi2
    have hL : i < L.length := by simpa [vls] using hi2
    have hn : (nums k L)[i]? = some (.int k (.ofNat L[i])) := by unfold nums; simp [hL]
    obtain ⟨v', e1, e2⟩ := hr.cell hψ hH rfl hn
    cases e2
    rw [Nat.zero_add] at e1
    unfold World.cell? at e1
    simp only [h1] at e1
    simp [hi1] at e1
    rw [e1]
    simp [vls]
  rw [this]
theorem law_calls {w : World} {p : Pk} {l8 : Option Ev.Loc} {lv : V} {sl : Value} {x y : Int} (hS : Start w p l8) (hlv : Rv (phi9 l8) lv sl)
    (hc : CallTo Tryz.prog 8 (.fn 3) [lv, .int .i64 x, .int .i64 y] (mkH (g9 p)) fun v H' => v = .bool true ∧ firsts H' = g9 p) :
    Calls Tryz.prog 3 #[sl, .int .i64 x, .int .i64 y] w fun e w' => e = .returned (.bool true) ∧ Below w.heap.size w w' := by
  refine (hc.2 (phi9 l8) w [sl, .int .i64 x, .int .i64 y] (rel9 hS) (glob9 l8) (.cons hlv (.cons (.int _ _) (.cons (.int _ _) .nil)))).mono ?_
  rintro e w' ⟨v, v', H', ψ, rfl, hext, hrv, rfl, hf⟩
  cases hrv
  refine ⟨rfl, hext.same.os, hext.same.tape, hext.same.output, hext.size, ?_⟩
  have hg := firsts_get hf
  have ro : ∀ {b : Nat} {l : Ev.Loc} {x : Obj}, phi9 l8 b = some l → H'.get b = .oth (.ro x) → w'.heap[l.c]? = some x := fun e1 e2 => (hext.rel.oth (hext.le _ _ e1) e2).2
  have ro8 : ∀ {b : Nat} {x : Obj}, b < 8 → (g9 p)[b]? = some (.oth (.ro x)) → w'.heap[b]? = some x := fun {b x} h1 h2 => ro (phi9_lt h1) (Option.some.inj ((hg b (by omega)).symm.trans h2))
  have tab : ∀ {b : Nat} {k : IntKind} {L : List Nat}, b < 8 → TabAt w b k L → (g9 p)[b]? = some (.cells (nums k L) 0) → w'.heap[b]? = w.heap[b]? := fun {b k L} h1 h2 h3 =>
    tab_same hext.rel hext.same (hext.le _ _ (phi9_lt h1)) (Option.some.inj ((hg b (by omega)).symm.trans h3)) h2
  intro k hk
  by_cases h8 : k < 8
  · match k, h8 with
    | 0, h => exact tab h hS.t0 rfl
    | 1, h => exact tab h hS.t1 rfl
    | 2, h => exact (ro8 h rfl).trans hS.x2.symm
    | 3, h => exact (ro8 h rfl).trans hS.x3.symm
    | 4, h => exact tab h hS.t4 rfl
    | 5, h => exact (ro8 h rfl).trans hS.x5.symm
    | 6, h => exact (ro8 h rfl).trans hS.x6.symm
    | 7, h => exact (ro8 h rfl).trans hS.x7.symm
  · have out : (∀ l, phi9 l8 8 = some l → l.c ≠ k) → w'.heap[k]? = w.heap[k]? := by
      intro h
      refine hext.keepC hk ?_
      intro b l e1
      rcases phi9_some hS e1 with ⟨h1, rfl⟩ | ⟨rfl, _⟩
      · intro e; have : b = k := e; omega
      · exact h l e1
    rcases hS.lb with ⟨h1, _⟩ | ⟨c, x, h1, h2, h3, h4⟩
    · refine out fun l e => ?_
      rw [phi9_8, h1] at e
      cases e
    · by_cases hck : c = k
      · subst hck
        have e : phi9 l8 8 = some ⟨c, 0, 0⟩ := h1
        have e2 : H'.get 8 = .oth (.ro x) := (Option.some.inj (hg 8 (by omega))).symm.trans h4
        exact (ro e e2).trans h3.symm
      · refine out fun l e => ?_
        rw [phi9_8, h1] at e
        cases e
        exact hck
end Go.Proofs.YtofkmenlcnjolaaGreatDoor
