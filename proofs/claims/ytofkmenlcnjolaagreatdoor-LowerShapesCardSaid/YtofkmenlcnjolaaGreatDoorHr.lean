/- The closed runs of LowerShapes: for each number of variables, each degree and each variable that the tape may name. -/
import Derived.Test.YtofkmenlcnjolaaGreatDoorHg
namespace Go.Proofs.YtofkmenlcnjolaaGreatDoor
open Go.Ev
noncomputable def headL (p : Pk) (v : Nat) (dv : V) (tb : AObj) : Bool × Bool × V × Bool × Option Bool × Option (Tgt × List V) × AObj × List AObj :=
  (isNorm (rA p v dv tb), isNorm (rB p v dv tb), (stF (rB p v dv tb)).get V.undef 30, (m5 p v dv tb).isSome, sN.want (F5 p v dv tb), callAt sN (F5 p v dv tb), (H5 p v dv tb).get 9, firsts (H5 p v dv tb))
theorem head_of {p : Pk} {v : Nat} {dv : V} {tb : AObj} (h : headL p v dv tb = (true, true, .bool true, true, some true, some (.fn 9, [.ptr 9 0, I v]), tb, g9 p)) : HeadOk p v dv tb := by
  unfold headL at h
  simp only [Prod.mk.injEq] at h
  obtain ⟨h1, h2, h3, h4, h5, h6, h7, h8⟩ := h
  exact ⟨h1, h2, h3, h4, h5, h6, h7, h8⟩
theorem hd1 (p : Pk) (dv : V) (tb : AObj) : headL p 1 dv tb = (true, true, .bool true, true, some true, some (.fn 9, [.ptr 9 0, I 1]), tb, g9 p) := by kernel_rfl
theorem hd2 (p : Pk) (dv : V) (tb : AObj) : headL p 2 dv tb = (true, true, .bool true, true, some true, some (.fn 9, [.ptr 9 0, I 2]), tb, g9 p) := by kernel_rfl
theorem hd3 (p : Pk) (dv : V) (tb : AObj) : headL p 3 dv tb = (true, true, .bool true, true, some true, some (.fn 9, [.ptr 9 0, I 3]), tb, g9 p) := by kernel_rfl
noncomputable def zeroL (p : Pk) (dv : V) (tb : AObj) : Bool × Bool × V × List AObj :=
  (isNorm (rA p 0 dv tb), isNorm (rB p 0 dv tb), (stF (rB p 0 dv tb)).get V.undef 30, outT (rn k5 (stF (rB p 0 dv tb)) (stH (rB p 0 dv tb))))
theorem hd0 (p : Pk) (dv : V) (tb : AObj) : zeroL p dv tb = (true, true, .bool false, g9 p) := by kernel_rfl
theorem zero_ok (p : Pk) (dv : V) (tb : AObj) : ZeroOk p dv tb := by
  have h := hd0 p dv tb
  unfold zeroL at h
  simp only [Prod.mk.injEq] at h
  obtain ⟨h1, h2, h3, h4⟩ := h
  exact ⟨h1, h2, h3, h4⟩
noncomputable def lrep {α : Type} (x : α) (n : Nat) : List α := Nat.rec (motive := fun _ => List α) [] (fun _ ih => x :: ih) n
theorem of_lrep {α : Type} {f : Nat → α} {x : α} : ∀ {l : List Nat} {n : Nat}, lmap f l = lrep x n → ∀ d ∈ l, f d = x := by
  intro l
  induction l with
  | nil => intro n _ d hd; cases hd
  | cons a l ih =>
    intro n h d hd
    cases n with
    | zero => cases h
    | succ n =>
      have h' : f a :: lmap f l = x :: lrep x n := h
      injection h' with h1 h2
      cases hd with
      | head => exact h1
      | tail _ hd => exact ih h2 d hd
end Go.Proofs.YtofkmenlcnjolaaGreatDoor
