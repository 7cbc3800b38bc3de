/- The contracts of the tape's two functions for the evaluator. -/
import Derived.Test.YtofkmenlcnjolaaGreatDoorBase
import Derived.Test.YtofkmenlcnjolaaGreatDoorWk
namespace Go.Proofs.YtofkmenlcnjolaaGreatDoor
open Go.Ev
open Go.RowKit (wrap64)
theorem ext_lk {φ ψ : Phi} {H H' : Heap} {w w1 w2 : World} (h : Ext φ H w ψ H' w1) (e : Lk w2 w1) : Ext φ H w ψ H' w2 := by
  obtain ⟨h2, t2, d2, o2, p2⟩ := w2
  obtain ⟨h1, t1, d1, o1, p1⟩ := w1
  obtain ⟨e1, e2, e3, e4⟩ := e
  simp only at e1 e2 e3 e4
  subst e1 e2 e3 e4
  have hr := h.rel
  have hs := h.same
  exact ⟨⟨hr.cell, hr.room, hr.len, hr.inj, hr.top, hr.loc, hr.mem, hr.flo, fun x y => let ⟨f1, f2⟩ := hr.oth x y; ⟨f1, f2.mono (Phi.le_refl _) rfl⟩⟩, h.le, h.fresh, h.keepA, h.next, h.keepC, h.size, ⟨hs.tape, hs.os, hs.output, hs.free, hs.shape⟩, h.keepN⟩
noncomputable def isFn (f : FuncId) : Bool := match (fnsOf Tryz.prog).get Option.none f with
  | some fn => (match fn.body with | some _ => !(fn.name == "runtime.NumGoroutine") | Option.none => false)
  | Option.none => false
theorem isFn_ok {f : FuncId} (h : isFn f = true) : FnIs Tryz.prog f := by
  unfold isFn at h
  cases h1 : (fnsOf Tryz.prog).get Option.none f with
  | none => rw [h1] at h; cases h
  | some fn =>
    rw [h1] at h
    cases h2 : fn.body with
    | none => simp only [h2] at h; cases h
    | some c => simp only [h2] at h; exact ⟨fn, c, fns_ok _ f fn h1, h2, by simpa using h⟩
theorem fn4 : FnIs Tryz.prog 4 := isFn_ok (by decide +kernel)
theorem fn9 : FnIs Tryz.prog 9 := isFn_ok (by decide +kernel)
theorem new2 {φ : Phi} {w : World} {s : V} {s' : Value} (h : Rv φ s s') : NewOk φ (.cells [s, .int .i64 0] 0) 2 w (w.alloc (.cells #[s', .int .i64 0] 52)) := by
  have e : (w.alloc (.cells #[s', .int .i64 0] 52)).heap[w.heap.size]? = some (.cells #[s', .int .i64 0] 52 (0, 0)) := by
    show (w.heap.push _)[w.heap.size]? = _
    simp
  refine ⟨by show (w.heap.push _).size = _; simp, fun c hc => ?_, Same.alloc _ _, ⟨_, rfl, Nat.le_refl _, ?_, ?_⟩⟩
  · show (w.heap.push _)[c]? = _
    rw [Array.getElem?_push, if_neg (Nat.ne_of_lt hc)]
  · intro i v hi
    unfold World.cell?
    simp only [e]
    match i with
    | 0 => cases hi; exact ⟨s', rfl, h⟩
    | 1 => cases hi; exact ⟨_, rfl, .int _ _⟩
    | i + 2 => simp at hi
  · intro i hi
    unfold World.cell? World.frozen?
    simp only [e]
    match i with
    | 0 => exact ⟨⟨_, rfl⟩, by simp⟩
    | 1 => exact ⟨⟨_, rfl⟩, by simp⟩
    | i + 2 => omega
theorem new_post {φ : Phi} {H : Heap} {w : World} (hr : Rel φ H w) {s : V} {s' : Value} (h : Rv φ s s') {e : Ending} {w' : World} (he : e = .returned (.pointer (some ⟨w.heap.size, 0, none⟩)) ∧ Lk w' (w.alloc (.cells #[s', .int .i64 0] 52))) :
    Post φ H w (fun v H' => v = .ptr H.next 0 ∧ H' = H.push (.cells [s, .int .i64 0] 0)) e w' := by
  obtain ⟨rfl, hl⟩ := he
  exact ⟨.ptr H.next 0, _, _, φ.add H.next ⟨w.heap.size, 0, 2⟩, rfl, ext_lk (ext_new hr (new2 h)) hl, .ptr (l := ⟨w.heap.size, 0, 2⟩) (Phi.add_self _ _ _), rfl, rfl⟩
theorem new_to {b o L cap : Nat} {H : Heap} (hcap : cap ≤ 9223372036854775807) : CallTo Tryz.prog 8 (.fn 4) [.slice b o L (.known cap)] H fun v H' => v = .ptr H.next 0 ∧ H' = H.push (.cells [.slice b o (min L 400) (.known cap), .int .i64 0] 0) := by
  refine ⟨fn4, fun φ w args' hr hg ha => ?_⟩
  cases ha with
  | cons h1 h2 =>
    cases h2
    cases h1 with
    | slice hb hl hc =>
      rename_i cap' l
      have hc' : cap' = cap := hc
      subst hc'
      by_cases h4 : L ≤ 400
      · have e : min L 400 = L := Nat.min_eq_left h4
        rw [e]
        exact (walk_new_small _ _ _ w hl h4).mono fun _ _ he => new_post hr (.slice hb hl hc) he
      · have e : min L 400 = 400 := by omega
        rw [e]
        exact (walk_new_great _ _ _ w hl hcap (by omega)).mono fun _ _ he => new_post hr (.slice hb (by omega) hc) he
theorem new_nil {H : Heap} : CallTo Tryz.prog 8 (.fn 4) [.nils] H fun v H' => v = .ptr H.next 0 ∧ H' = H.push (.cells [.nils, .int .i64 0] 0) := by
  refine ⟨fn4, fun φ w args' hr hg ha => ?_⟩
  cases ha with
  | cons h1 h2 =>
    cases h2
    cases h1
    exact (walk_new_small _ _ _ w (Nat.le_refl _) (by omega)).mono fun _ _ he => new_post hr .nils he
theorem new_emp {H : Heap} : CallTo Tryz.prog 8 (.fn 4) [.emp] H fun v H' => v = .ptr H.next 0 ∧ H' = H.push (.cells [.emp, .int .i64 0] 0) := by
  refine ⟨fn4, fun φ w args' hr hg ha => ?_⟩
  cases ha with
  | cons h1 h2 =>
    cases h2
    cases h1 with
    | emp a cap => exact (walk_new_small (some a) 0 cap w (Nat.zero_le _) (by omega)).mono fun _ _ he => new_post hr (.emp a cap) he
/-- the number that a tape's first cell gives -/
theorem rem_lt (x : Int) (n : Nat) (hn : n = 1 ∨ n = 2 ∨ n = 3) : ∃ r : Nat, r < n ∧ (wrap64 (x.tmod n + n)).tmod n = (r : Int) := by
  have h1 : -(n : Int) < x.tmod n ∧ x.tmod n < n := by
    have hp : (0 : Int) < n := by rcases hn with rfl | rfl | rfl <;> decide
    have h1 := Int.lt_tmod_of_pos x hp
    have h2 := Int.tmod_lt_of_pos x hp
    omega
  have h2 : wrap64 (x.tmod n + n) = x.tmod n + n := by
    have h3 : 0 ≤ x.tmod n + n := by omega
    have h4 : x.tmod n + n < 10 := by omega
    generalize x.tmod n + n = y at h3 h4
    unfold wrap64
    omega
  rw [h2]
  refine ⟨((x.tmod n + n).tmod n).toNat, ?_, ?_⟩
  · have h3 : (0 : Int) ≤ x.tmod n + n := by omega
    rw [Int.tmod_eq_emod_of_nonneg h3]
    have h4 := Int.emod_lt_of_pos (x.tmod n + n) (show (0 : Int) < n by rcases hn with rfl | rfl | rfl <;> decide)
    have h5 := Int.emod_nonneg (x.tmod n + n) (show (n : Int) ≠ 0 by rcases hn with rfl | rfl | rfl <;> decide)
    omega
  · have h3 : (0 : Int) ≤ x.tmod n + n := by omega
    rw [Int.tmod_eq_emod_of_nonneg h3]
    have h5 := Int.emod_nonneg (x.tmod n + n) (show (n : Int) ≠ 0 by rcases hn with rfl | rfl | rfl <;> decide)
    omega
def NextQ (n t : Nat) (s : V) (H : Heap) (v : V) (H' : Heap) : Prop := (∃ r : Nat, r < n ∧ v = .int .i64 (.ofNat r)) ∧ ∃ k, H' = H.set t (.cells [s, .int .i64 k] 0)
end Go.Proofs.YtofkmenlcnjolaaGreatDoor
