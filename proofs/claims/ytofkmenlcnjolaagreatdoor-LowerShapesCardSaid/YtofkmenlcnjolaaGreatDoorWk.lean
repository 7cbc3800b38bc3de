/- What the tape's two functions do: New makes a tape of at most 400 numbers, Next reads its first number. -/
import Derived.Test.YtofkmenlcnjolaaGreatDoorProg
import Derived.WalkKit
namespace Go.Proofs.YtofkmenlcnjolaaGreatDoor
open Go.RowKit
/-- alike but for the number of draws -/
def Lk (w' w : World) : Prop := w'.heap = w.heap ∧ w'.tape = w.tape ∧ w'.os = w.os ∧ w'.output = w.output
theorem walk_new_small (a : Option Addr) (len cap : Nat) (w : World) (hlc : len ≤ cap) (h4 : len ≤ 400) :
    Calls Tryz.prog 4 #[.slice a len cap] w fun e w' => e = .returned (.pointer (some ⟨w.heap.size, 0, none⟩)) ∧ Lk w' (w.alloc (.cells #[.slice a len cap, .int .i64 0] 52)) := by
  go_enter Tryz.func4, Tryz.ntmps4
  go_wp2
  go_ret
  exact ⟨rfl, rfl, rfl, rfl, rfl⟩
theorem walk_new_great (a : Option Addr) (len cap : Nat) (w : World) (hlc : len ≤ cap) (hcap : cap ≤ 9223372036854775807) (h4 : 400 < len) :
    Calls Tryz.prog 4 #[.slice a len cap] w fun e w' => e = .returned (.pointer (some ⟨w.heap.size, 0, none⟩)) ∧ Lk w' (w.alloc (.cells #[.slice a 400 cap, .int .i64 0] 52)) := by
  go_enter Tryz.func4, Tryz.ntmps4
  go_wp2
  go_ret
  exact ⟨rfl, rfl, rfl, rfl, rfl⟩
theorem next_end (t f : Nat) (a : Option Addr) (cap : Nat) (n : Int) (w : World) (h0 : w.cell? ⟨t, f, none⟩ = some (.slice a 0 cap)) (h1 : w.cell? ⟨t, f + 1, none⟩ = some (.int .i64 0)) :
    Calls Tryz.prog 9 #[.pointer (some ⟨t, f, none⟩), .int .i64 n] w fun e w' => e = .returned (.int .i64 0) ∧ Lk w' w := by
  go_enter Tryz.func9, Tryz.ntmps9
  go_wp2
  go_region
  all_goals (go_wp2; go_ret; exact ⟨rfl, rfl, rfl, rfl, rfl⟩)
theorem next_some (t f b off m cap : Nat) (x n : Int) (w : World) (hn : n = 1 ∨ n = 2 ∨ n = 3) (_hm : m < 400) (h0 : w.cell? ⟨t, f, none⟩ = some (.slice (some ⟨b, off, none⟩) (m + 1) cap)) (h1 : w.cell? ⟨t, f + 1, none⟩ = some (.int .i64 0)) (f1 : w.frozen? ⟨t, f + 1, none⟩ = false)
    (cm : w.cell? ⟨b, off, none⟩ = some (.int .i64 x)) :
    Calls Tryz.prog 9 #[.pointer (some ⟨t, f, none⟩), .int .i64 n] w fun e w' => e = .returned (.int .i64 ((wrap64 (x.tmod n + n)).tmod n)) ∧ Lk w' (w.setCell ⟨t, f + 1, none⟩ (.int .i64 1)) := by
  go_enter Tryz.func9, Tryz.ntmps9
  go_wp2
  go_region
  all_goals go_wp2
  all_goals go_region
  all_goals go_wp2
  all_goals go_ret
  all_goals exact ⟨rfl, rfl, rfl, rfl, rfl⟩
end Go.Proofs.YtofkmenlcnjolaaGreatDoor
