/- LowerShapes as a call, on a heap of the evaluator; then in a world. -/
import Derived.Test.YtofkmenlcnjolaaGreatDoorHh
import Derived.Test.YtofkmenlcnjolaaGreatDoorHt10
import Derived.Test.YtofkmenlcnjolaaGreatDoorHt20
import Derived.Test.YtofkmenlcnjolaaGreatDoorHt21
import Derived.Test.YtofkmenlcnjolaaGreatDoorHt30
import Derived.Test.YtofkmenlcnjolaaGreatDoorHt31
import Derived.Test.YtofkmenlcnjolaaGreatDoorHt32
import Derived.Below
namespace Go.Proofs.YtofkmenlcnjolaaGreatDoor
open Go.Ev
open Go.RowKit (Below)
theorem mem25 : ∀ d : Nat, d < 25 → d ∈ [0,1,2,3,4,5,6,7,8,9,10,11,12,13,14,15,16,17,18,19,20,21,22,23,24] := by decide
def NextOk (p : Pk) (tb : AObj) : Prop := ∀ v : Nat, v = 1 ∨ v = 2 ∨ v = 3 → ∀ H : Heap, H.get 9 = tb → firsts H = g9 p → CallTo Tryz.prog 8 (.fn 9) [.ptr 9 0, I v] H fun u H' => (∃ r : Nat, r < v ∧ u = I r) ∧ ∃ tb', H' = H.set 9 tb'
theorem k3_ws {B : Nat} {p : Pk} {tb : AObj} (hnext : NextOk p tb) (v d : Nat) (hv : v < 4) (hd : d < 25) : WS Tryz.prog 8 B 82 false k3 (Fm v (I d)) (Hm p tb) (QQ p) := by
  have hm := mem25 d hd
  match v, hv with
  | 0, _ => exact zero_ws (zero_ok p (I d) tb)
  | 1, _ =>
    refine some_ws (head_of (hd1 p (I d) tb)) (hnext 1 (.inl rfl)) ?_
    intro r hr tb'
    match r, hr with
    | 0, _ => exact of_lrep (tl10 p tb tb') d hm
  | 2, _ =>
    refine some_ws (head_of (hd2 p (I d) tb)) (hnext 2 (.inr (.inl rfl))) ?_
    intro r hr tb'
    match r, hr with
    | 0, _ => exact of_lrep (tl20 p tb tb') d hm
    | 1, _ => exact of_lrep (tl21 p tb tb') d hm
  | 3, _ =>
    refine some_ws (head_of (hd3 p (I d) tb)) (hnext 3 (.inr (.inr rfl))) ?_
    intro r hr tb'
    match r, hr with
    | 0, _ => exact of_lrep (tl30 p tb tb') d hm
    | 1, _ => exact of_lrep (tl31 p tb tb') d hm
    | 2, _ => exact of_lrep (tl32 p tb tb') d hm
noncomputable def fn3 : Func := (NN.get Option.none 3).getD Tryz.f3
theorem fn3_get : NN.get Option.none 3 = some fn3 := by kernel_rfl
theorem fn3_body : fn3.body = some body3 := by kernel_rfl
theorem fn3_tmps : fn3.ntmps = 82 := by kernel_rfl
theorem fn3_res : fn3.results.toList = res3 := by kernel_rfl
theorem fn3_ok : fnOk 8 fn3 body3 = true := by decide +kernel
theorem shapes_to {p : Pk} {lv : V} {x y : Int} {tb : AObj} (hnew : CallTo Tryz.prog 8 (.fn 4) [lv] (mkH (g9 p)) fun v H' => v = .ptr 9 0 ∧ H' = Hm p tb) (hnext : NextOk p tb) :
    CallTo Tryz.prog 8 (.fn 3) [lv, .int .i64 x, .int .i64 y] (mkH (g9 p)) fun v H' => v = .bool true ∧ firsts H' = g9 p := by
  refine call_fn (T := TT) (N := NN) (fn := fn3) (c := body3) (tys_ok _) (fns_ok _) fn3_get fn3_body ?_ ?_
  · rw [fn3_ok, fn3_tmps]; rfl
  · rw [fn3_tmps, fn3_res]
    refine (start_ws (x := x) (y := y) hnew (k3_ws hnext)).mono ?_
    rintro x F H ⟨h1, ⟨l, h2, h3⟩, h4⟩
    exact ⟨h1, l, h2, h3, h4⟩
theorem firsts_get {H : Heap} {p : Pk} (h : firsts H = g9 p) : ∀ k : Nat, k < 9 → (g9 p)[k]? = some (H.get k) := by
  rw [← h]
  intro k hk
  match k, hk with
  | 0, _ => rfl
  | 1, _ => rfl
  | 2, _ => rfl
  | 3, _ => rfl
  | 4, _ => rfl
  | 5, _ => rfl
  | 6, _ => rfl
  | 7, _ => rfl
  | 8, _ => rfl
/- the three tapes -/
theorem empty_next {p : Pk} {s : V} (hs : ∀ φ s', Rv φ s s' → ∃ a cap, s' = .slice a 0 cap) : NextOk p (.cells [s, .int .i64 0] 0) := fun v hv H h9 _ =>
  (CallTo.reset (next_nil (n := v) hs h9) h9).mono (by
    rintro u H' ⟨rfl, rfl⟩
    exact ⟨⟨0, by omega, rfl⟩, _, rfl⟩)
theorem nil_next {p : Pk} : NextOk p (.cells [.nils, .int .i64 0] 0) := empty_next fun _ _ h => by cases h; exact ⟨_, _, rfl⟩
theorem emp_next {p : Pk} : NextOk p (.cells [.emp, .int .i64 0] 0) := empty_next fun _ _ h => by cases h; exact ⟨_, _, rfl⟩
theorem row_next {p : Pk} {k o m : Nat} {c : Cap} {obj : Obj} {x : Int} (hk : k < 9) (hm : m < 400) (hb : (g9 p)[k]? = some (.oth (.ro obj))) (hx : ∀ (w : World) (j : Nat), w.heap[j]? = some obj → w.cell? ⟨j, o, none⟩ = some (.int .i64 x)) : NextOk p (.cells [.slice k o (m + 1) c, .int .i64 0] 0) := fun v hv H h9 hf =>
  (next_to (n := v) hv hm h9 (Option.some.inj ((firsts_get hf k hk).symm.trans hb)) hx).mono (by
    rintro u H' ⟨h, rfl⟩
    exact ⟨h, _, rfl⟩)
theorem call_nil {p : Pk} {x y : Int} : CallTo Tryz.prog 8 (.fn 3) [.nils, .int .i64 x, .int .i64 y] (mkH (g9 p)) fun v H' => v = .bool true ∧ firsts H' = g9 p := shapes_to new_nil nil_next
theorem call_emp {p : Pk} {x y : Int} : CallTo Tryz.prog 8 (.fn 3) [.emp, .int .i64 x, .int .i64 y] (mkH (g9 p)) fun v H' => v = .bool true ∧ firsts H' = g9 p := shapes_to new_emp emp_next
theorem call_row {p : Pk} {k o L cap : Nat} {obj : Obj} {x y z : Int} (hk : k < 9) (hL : 0 < L) (hcap : cap ≤ 9223372036854775807) (hb : (g9 p)[k]? = some (.oth (.ro obj))) (hx : ∀ (w : World) (j : Nat), w.heap[j]? = some obj → w.cell? ⟨j, o, none⟩ = some (.int .i64 z)) :
    CallTo Tryz.prog 8 (.fn 3) [.slice k o L (.known cap), .int .i64 x, .int .i64 y] (mkH (g9 p)) fun v H' => v = .bool true ∧ firsts H' = g9 p := by
  obtain ⟨m, hm, e⟩ : ∃ m, m < 400 ∧ min L 400 = m + 1 := ⟨min L 400 - 1, by omega, by omega⟩
  refine shapes_to (tb := .cells [.slice k o (m + 1) (.known cap), .int .i64 0] 0) ?_ (row_next hk hm hb hx)
  have h := new_to (b := k) (o := o) (L := L) (cap := cap) (H := mkH (g9 p)) hcap
  rw [e] at h
  exact h
end Go.Proofs.YtofkmenlcnjolaaGreatDoor
