/- The head of LowerShapes: from the tape to the closed runs. -/
import Derived.Test.YtofkmenlcnjolaaGreatDoorHd
namespace Go.Proofs.YtofkmenlcnjolaaGreatDoor
open Go.Ev
open Go.RowKit (wrap64)
theorem set1 {H : Heap} {t : Nat} {s v : V} (h : H.get t = .cells [s, v] 0) (n : Int) : H.storeN t 1 [.int .i64 n] = some (H.set t (.cells [s, .int .i64 n] 0)) := by
  unfold Heap.storeN
  rw [h]
  rfl
/-- Next on a tape with a number in it; the numbers lie in an object that is only read -/
theorem next_to {t b o m n : Nat} {c : Cap} {H : Heap} {x : Int} {obj : Obj} (hn : n = 1 ∨ n = 2 ∨ n = 3) (hm : m < 400) (ht : H.get t = .cells [.slice b o (m + 1) c, .int .i64 0] 0) (hb : H.get b = .oth (.ro obj)) (hx : ∀ (w : World) (k : Nat), w.heap[k]? = some obj → w.cell? ⟨k, o, none⟩ = some (.int .i64 x)) :
    CallTo Tryz.prog 8 (.fn 9) [.ptr t 0, .int .i64 (.ofNat n)] H fun v H' => (∃ r : Nat, r < n ∧ v = .int .i64 (.ofNat r)) ∧ H' = H.set t (.cells [.slice b o (m + 1) c, .int .i64 1] 0) := by
  refine ⟨fn9, fun φ w args' hr hg ha => ?_⟩
  cases ha with
  | cons h1 h2 =>
    cases h2 with
    | cons h3 h4 =>
      cases h4
      cases h3
      cases h1 with
      | ptr hφ =>
        rename_i l
        have hlive : ∀ y, H.lives y 0 = true := fun y => rfl
        obtain ⟨v0, e0, r0⟩ := hr.cell hφ ht (hlive _) (i := 0) rfl
        obtain ⟨v1, e1, r1⟩ := hr.cell hφ ht (hlive _) (i := 1) rfl
        cases r1
        cases r0 with
        | slice hφb hl hc =>
          rename_i cap' lb
          obtain ⟨hb0, hobj⟩ := hr.oth hφb hb
          have e2 : w.cell? ⟨lb.c, lb.base + o, none⟩ = some (.int .i64 x) := by
            rw [hb0, Nat.zero_add]
            exact hx w lb.c hobj
          have hlim := hr.len hφ ht
          obtain ⟨_, hfz⟩ := hr.room hφ (i := 1) (by simp at hlim; omega)
          obtain ⟨r, hr1, hr2⟩ := rem_lt x n hn
          have hn' : (Int.ofNat n) = 1 ∨ (Int.ofNat n) = 2 ∨ (Int.ofNat n) = 3 := by rcases hn with rfl | rfl | rfl <;> simp
          refine (next_some l.c (l.base + 0) lb.c (lb.base + o) m cap' x (Int.ofNat n) w hn' hm e0 e1 hfz e2).mono ?_
          rintro e w' ⟨rfl, hlk⟩
          have hst := (store_ext (P := Tryz.prog) hr hφ (vs' := [.int .i64 1]) (.cons (.int _ _) .nil) (set1 ht 1)).2
          refine ⟨.int .i64 (.ofNat r), _, _, φ, rfl, ext_lk hst hlk, ?_, ⟨r, hr1, rfl⟩, rfl⟩
          have e3 : (wrap64 (x.tmod (Int.ofNat n) + Int.ofNat n)).tmod (Int.ofNat n) = Int.ofNat r := hr2
          rw [e3]
          exact .int _ _
/-- Next on an empty tape -/
theorem next_nil {t n : Nat} {s : V} {H : Heap} (hs : ∀ φ s', Rv φ s s' → ∃ a cap, s' = .slice a 0 cap) (ht : H.get t = .cells [s, .int .i64 0] 0) :
    CallTo Tryz.prog 8 (.fn 9) [.ptr t 0, .int .i64 (.ofNat n)] H fun v H' => v = .int .i64 (.ofNat 0) ∧ H' = H := by
  refine ⟨fn9, fun φ w args' hr hg ha => ?_⟩
  cases ha with
  | cons h1 h2 =>
    cases h2 with
    | cons h3 h4 =>
      cases h4
      cases h3
      cases h1 with
      | ptr hφ =>
        rename_i l
        have hlive : ∀ y, H.lives y 0 = true := fun y => rfl
        obtain ⟨v0, e0, r0⟩ := hr.cell hφ ht (hlive _) (i := 0) rfl
        obtain ⟨v1, e1, r1⟩ := hr.cell hφ ht (hlive _) (i := 1) rfl
        cases r1
        obtain ⟨a, cap, rfl⟩ := hs _ _ r0
        refine (next_end l.c (l.base + 0) a cap (Int.ofNat n) w e0 e1).mono ?_
        rintro e w' ⟨rfl, hlk⟩
        exact ⟨.int .i64 (.ofNat 0), _, _, φ, rfl, ext_lk (Ext.refl hr) hlk, .int _ _, rfl, rfl⟩
end Go.Proofs.YtofkmenlcnjolaaGreatDoor
