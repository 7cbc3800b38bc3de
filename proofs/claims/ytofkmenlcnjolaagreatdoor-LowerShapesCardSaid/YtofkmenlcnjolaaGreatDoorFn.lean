/- The program's types lie as they should, in parts; no body starts a goroutine. -/
import Derived.Test.YtofkmenlcnjolaaGreatDoorProg
import Derived.KernelRfl
import GoSem.ClaimDataLaid
import GoSem.ClaimGoes
namespace Go.Proofs.YtofkmenlcnjolaaGreatDoor
open Go
noncomputable def rowsFine (a n : Nat) : Bool := Nat.rec (motive := fun _ => Bool) true (fun k ih => and (rowFine Tryz.prog (a + k)) ih) n
theorem rowsFine_ok {a : Nat} : ∀ {n : Nat}, rowsFine a n = true → ∀ t, a ≤ t → t < a + n → rowFine Tryz.prog t = true := by
  intro n
  induction n with
  | zero => intro _ t h1 h2; omega
  | succ n ih =>
    intro h t h1 h2
    have h' : and (rowFine Tryz.prog (a + n)) (rowsFine a n) = true := h
    rw [Bool.and_eq_true] at h'
    by_cases e : t = a + n
    · subst e; exact h'.1
    · exact ih h'.2 t h1 (by omega)
theorem ntypes : Tryz.prog.types.size = 732 := by kernel_rfl
theorem fine0 : rowsFine 0 122 = true := by kernel_rfl
theorem fine1 : rowsFine 122 122 = true := by kernel_rfl
theorem fine2 : rowsFine 244 122 = true := by kernel_rfl
theorem fine3 : rowsFine 366 122 = true := by kernel_rfl
theorem fine4 : rowsFine 488 122 = true := by kernel_rfl
theorem fine5 : rowsFine 610 122 = true := by kernel_rfl
theorem fineG : Tryz.prog.globals.all (fun g => decide (g.type < Tryz.prog.types.size)) = true := by kernel_rfl
theorem fineF : Tryz.prog.funcs.all (fun f => f.params.all fun t => decide (t < Tryz.prog.types.size)) = true := by kernel_rfl
theorem laidOut : laidOutB Tryz.prog = true := by
  unfold laidOutB
  rw [fineG, fineF, Bool.and_true, Bool.and_true, List.all_eq_true]
  intro t ht
  rw [List.mem_range, ntypes] at ht
  rcases Nat.lt_or_ge t 122 with h | h
  · exact rowsFine_ok fine0 t (by omega) (by omega)
  rcases Nat.lt_or_ge t 244 with h | h
  · exact rowsFine_ok fine1 t (by omega) (by omega)
  rcases Nat.lt_or_ge t 366 with h | h
  · exact rowsFine_ok fine2 t (by omega) (by omega)
  rcases Nat.lt_or_ge t 488 with h | h
  · exact rowsFine_ok fine3 t (by omega) (by omega)
  rcases Nat.lt_or_ge t 610 with h | h
  · exact rowsFine_ok fine4 t (by omega) (by omega)
  · exact rowsFine_ok fine5 t (by omega) (by omega)
theorem noGo : Tryz.prog.funcs.any Func.goes = false := by kernel_rfl
theorem noGo_at (g : Nat) : (Tryz.prog.funcs[g]?).any Func.goes = false := by
  cases h : Tryz.prog.funcs[g]? with
  | none => rfl
  | some fn =>
    have h1 := Array.any_eq_false.1 noGo
    obtain ⟨hg, rfl⟩ := Array.getElem?_eq_some_iff.1 h
    have h2 := h1 g hg
    simpa using h2
theorem goes_no (f : FuncId) : Tryz.prog.goes f = false := by
  unfold Program.goes
  rw [noGo, Bool.and_false, Bool.or_false, List.any_eq_false]
  intro g _
  rw [noGo_at]
  decide
end Go.Proofs.YtofkmenlcnjolaaGreatDoor
