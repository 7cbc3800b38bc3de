/- What the row's condition gives LowerShapes: the tables in the heap, the first argument's object. -/
import Derived.Test.YtofkmenlcnjolaaGreatDoorHx
import Derived.Lib.LaidTab
import Derived.Carry
import Derived.ChangeSlices
import Derived.Handed
import Derived.RowKit
import Derived.Test.YtofkmenlcnjolaaGreatDoorFd
namespace Go.Proofs.YtofkmenlcnjolaaGreatDoor
open Go.Ev
open Go.RowKit (Below)
open Go.ChangeShapes
theorem lay1 : (Rows.laid_math_bits_deBruijn64tab : DataW Unit) = Lib.tabData .u8 (L1.map Int.ofNat) := by kernel_rfl
theorem lay0 : (Rows.laid_internal_strconv_uint64pow10 : DataW Unit) = Lib.tabData .u64 (L0.map Int.ofNat) := by kernel_rfl
theorem lay4 : (Rows.laid_math_bits_deBruijn32tab : DataW Unit) = Lib.tabData .u8 (L4.map Int.ofNat) := by kernel_rfl
theorem nG : Tryz.prog.globals.size = 8 := by kernel_rfl
theorem rowsSome : (List.range 8).all (fun g => (((begin Tryz.prog (fun _ _ => 0) default).world.heap[g]?).bind Obj.row?).isSome) = true := by kernel_rfl
theorem globs {W : World} (h : W.ShapedOpen Tryz.prog) (g : Nat) (hg : g < 8) : ∃ cs t, W.heap[g]? = some (.cells cs t (0, 0)) := by
  have h1 := List.all_eq_true.1 rowsSome g (List.mem_range.2 hg)
  obtain ⟨⟨zero, t⟩, hz⟩ := Option.isSome_iff_exists.1 h1
  obtain ⟨cs, h2, _⟩ := h.1 g zero t (by rw [nG]; exact hg) hz
  exact ⟨cs, t, h2⟩
theorem tabAt_of {W : World} (hsh : W.ShapedOpen Tryz.prog) {name : String} {g : Nat} {k : IntKind} {L : List Nat} {cs : Array Value} (hg : Tryz.prog.globalNamed name = some g) (hg8 : g < 8) (hv : W.var? Tryz.prog name = some cs) (hc : cs.toList = (L.map Int.ofNat).map fun z => Value.int k z) : TabAt W g k L := by
  obtain ⟨cs', t, hh⟩ := globs hsh g hg8
  unfold World.var? at hv
  rw [hg] at hv
  simp only [Option.bind_some, hh, Option.some.injEq] at hv
  subst hv
  refine ⟨t, ?_⟩
  rw [hh]
  have : cs' = vls k L := by
    apply Array.ext'
    rw [hc]
    simp [vls]
  rw [this]
/- closed facts on the variables -/
theorem gn1 : Tryz.prog.globalNamed "math/bits.deBruijn64tab" = some 1 := by kernel_rfl
theorem gn0 : Tryz.prog.globalNamed "internal/strconv.uint64pow10" = some 0 := by kernel_rfl
theorem gn4 : Tryz.prog.globalNamed "math/bits.deBruijn32tab" = some 4 := by kernel_rfl
structure TabTy (g : Nat) (n : Nat) (k : IntKind) (t e : TypeId) : Prop where
  ty : (Tryz.prog.globals[g]?).map (·.type) = some t
  ht : Tryz.prog.underlying t = some (.array n e)
  he : Tryz.prog.underlying e = some (.int k)
  hce : Tryz.prog.cellsOf e = 1
  hct : Tryz.prog.cellsOf t = n
theorem tabs_of {W : World} (hsh : W.ShapedOpen Tryz.prog) {t0 e0 t1 e1 t4 e4 : TypeId} (y1 : TabTy 1 64 .u8 t1 e1) (y0 : TabTy 0 20 .u64 t0 e0) (y4 : TabTy 4 32 .u8 t4 e4) (h : laidMet Tryz.prog laid3 W) : TabAt W 0 .u64 L0 ∧ TabAt W 1 .u8 L1 ∧ TabAt W 4 .u8 L4 := by
  obtain ⟨ps, ⟨g1, u1, cs1, f1, p1, q1, hg1, ht1, hv1, hd1, ⟨g0, u0, cs0, f0, p0, q0, hg0, ht0, hv0, hd0, ⟨g4, u4, cs4, f4, p4, q4, hg4, ht4, hv4, hd4, _, _⟩, _⟩, _⟩, _, _⟩ := h
  obtain rfl := Option.some.inj (gn1.symm.trans hg1)
  obtain rfl := Option.some.inj (gn0.symm.trans hg0)
  obtain rfl := Option.some.inj (gn4.symm.trans hg4)
  obtain rfl := Option.some.inj (y1.ty.symm.trans ht1)
  obtain rfl := Option.some.inj (y0.ty.symm.trans ht0)
  obtain rfl := Option.some.inj (y4.ty.symm.trans ht4)
  rw [lay1] at hd1
  rw [lay0] at hd0
  rw [lay4] at hd4
  exact ⟨tabAt_of hsh gn0 (by omega) hv0 (Lib.cells_of_tab y0.ht y0.he y0.hce y0.hct hd0), tabAt_of hsh gn1 (by omega) hv1 (Lib.cells_of_tab y1.ht y1.he y1.hce y1.hct hd1), tabAt_of hsh gn4 (by omega) hv4 (Lib.cells_of_tab y4.ht y4.he y4.hce y4.hct hd4)⟩
theorem TabAt.kind {w : World} {g : Nat} {k : IntKind} {l : List Nat} (h : TabAt w g k l) {o : Nat} {z : Int} (hc : w.cell? ⟨g, o, none⟩ = some (.int .i64 z)) : k = .i64 := by
  obtain ⟨t, h⟩ := h
  unfold World.cell? at hc
  simp only [h] at hc
  simp [vls] at hc
  obtain ⟨a, _, h2⟩ := hc
  exact h2.1
/-- a slice of numbers reads as it did -/
theorem ints_stay {H : Type} {enc : TypeId × Value → H} {P : Program} {t e : TypeId} {W W' : World} {a : Option Addr} {len cap : Nat} {d : DataW H} {ps : List MemPlace} (ht : P.underlying t = some (.slice e)) (he : P.underlying e = some (.int .i64)) (hc : P.cellsOf e = 1)
    (hb : Below W.heap.size W W') (h : DataW.Trod enc P W 0 (fun _ => true) true t (.slice a len cap) d ps) : DataW.Trod enc P W' 0 (fun b => decide (b < W.heap.size)) true t (.slice a len cap) d ps := by
  obtain ⟨fuel, hf⟩ := h
  rcases open_ints ht he hc hf with ⟨hcs, hx⟩ | ⟨x, l, c, zs, hcs, _, hl, hm, hz, hx, hcell, hwz⟩
  · simp [Value.cells] at hcs
    obtain ⟨rfl, rfl, rfl⟩ := hcs
    simp only [Prod.mk.injEq] at hx
    obtain ⟨rfl, rfl⟩ := hx
    exact Go.RowKit.shut_slice_nil ht
  · simp [Value.cells] at hcs
    obtain ⟨rfl, rfl, rfl⟩ := hcs
    simp only [Prod.mk.injEq] at hx
    obtain ⟨rfl, rfl⟩ := hx
    simp only [if_true] at hz
    have hlt : 0 < zs.length → x.block < W.heap.size := by
      intro h0
      have h1 := hcell 0 h0
      have h2 : (x.add 0).block = x.block := block_add x 0
      unfold World.cell? at h1
      rw [h2] at h1
      rcases Nat.lt_or_ge x.block W.heap.size with h3 | h3
      · exact h3
      · rw [Array.getElem?_eq_none h3] at h1; cases h1
    refine ⟨2, shut_ints 0 ht he hc (Nat.zero_le _) hl hm ?_ ?_ hwz⟩
    · by_cases h0 : 0 < zs.length
      · simp [hlt h0, hz]
      · have : cap = 0 := by omega
        have : len = 0 := by omega
        simp_all
    · intro i hi
      rw [hb.cell (by rw [block_add]; exact hlt (by omega))]
      exact hcell i hi
/-- the call, the first argument being a row of numbers, or none -/
theorem slice_calls {W : World} (hsh : W.ShapedOpen Tryz.prog) (ht : TabAt W 0 .u64 L0 ∧ TabAt W 1 .u8 L1 ∧ TabAt W 4 .u8 L4) {sl : Value} (x y : Int)
    (hs : sl = .slice none 0 0 ∨ ∃ (a : Addr) (len cap : Nat) (z : Int), sl = .slice (some a) len cap ∧ len ≤ cap ∧ cap ≤ 9223372036854775807 ∧ (0 < len → W.cell? a = some (.int .i64 z))) :
    Calls Tryz.prog 3 #[sl, .int .i64 x, .int .i64 y] W fun e w' => e = .returned (.bool true) ∧ Below W.heap.size W w' := by
  obtain ⟨h0, h1, h4⟩ := ht
  obtain ⟨c2, u2, e2⟩ := globs hsh 2 (by omega)
  obtain ⟨c3, u3, e3⟩ := globs hsh 3 (by omega)
  obtain ⟨c5, u5, e5⟩ := globs hsh 5 (by omega)
  obtain ⟨c6, u6, e6⟩ := globs hsh 6 (by omega)
  obtain ⟨c7, u7, e7⟩ := globs hsh 7 (by omega)
  have none8 : Start W ⟨_, _, _, _, _, .none⟩ none := ⟨h0, h1, h4, e2, e3, e5, e6, e7, .inl ⟨rfl, rfl⟩⟩
  rcases hs with rfl | ⟨a, len, cap, z, rfl, hl, hcap, hc⟩
  · exact law_calls none8 .nils call_nil
  · cases len with
    | zero => exact law_calls none8 (.emp a cap) call_emp
    | succ len =>
      have hcell := hc (Nat.succ_pos _)
      obtain ⟨c, o, sp⟩ := a
      have hsp : sp = none := by
        unfold World.cell? at hcell
        cases sp with
        | none => rfl
        | some s => split at hcell <;> simp at hcell
      subst hsp
      obtain ⟨obj, hobj, hx⟩ : ∃ obj, W.heap[c]? = some obj ∧ ∀ (w : World) (j : Nat), w.heap[j]? = some obj → w.cell? ⟨j, o, none⟩ = some (.int .i64 z) := by
        cases ho : W.heap[c]? with
        | none => unfold World.cell? at hcell; simp only [ho] at hcell; cases hcell
        | some obj =>
          refine ⟨obj, rfl, fun w j hj => ?_⟩
          unfold World.cell? at hcell ⊢
          simp only [ho] at hcell
          simp only [hj]
          exact hcell
      have hrv : ∀ {φ : Phi} {k n : Nat}, φ k = some ⟨c, 0, n⟩ → Rv φ (.slice k o (len + 1) (.known cap)) (.slice (some ⟨c, o, none⟩) (len + 1) cap) := by
        intro φ k n hk
        have h : Rv φ (.slice k o (len + 1) (.known cap)) (.slice (some ⟨c, 0 + o, none⟩) (len + 1) cap) := Rv.slice (l := ⟨c, 0, n⟩) hk hl rfl
        rw [Nat.zero_add] at h
        exact h
      by_cases h8 : c < 8
      · have old : ∀ x : Obj, W.heap[c]? = some x → x = obj := fun x hx => Option.some.inj (hx.symm.trans hobj)
        match c, h8 with
        | 0, _ => exact absurd (h0.kind hcell) (by decide)
        | 1, _ => exact absurd (h1.kind hcell) (by decide)
        | 2, h8 => exact law_calls none8 (hrv (phi9_lt h8)) (call_row (by omega) (Nat.succ_pos _) hcap (show (g9 _)[2]? = some (.oth (.ro obj)) by rw [← old _ e2]; rfl) hx)
        | 3, h8 => exact law_calls none8 (hrv (phi9_lt h8)) (call_row (by omega) (Nat.succ_pos _) hcap (show (g9 _)[3]? = some (.oth (.ro obj)) by rw [← old _ e3]; rfl) hx)
        | 4, _ => exact absurd (h4.kind hcell) (by decide)
        | 5, h8 => exact law_calls none8 (hrv (phi9_lt h8)) (call_row (by omega) (Nat.succ_pos _) hcap (show (g9 _)[5]? = some (.oth (.ro obj)) by rw [← old _ e5]; rfl) hx)
        | 6, h8 => exact law_calls none8 (hrv (phi9_lt h8)) (call_row (by omega) (Nat.succ_pos _) hcap (show (g9 _)[6]? = some (.oth (.ro obj)) by rw [← old _ e6]; rfl) hx)
        | 7, h8 => exact law_calls none8 (hrv (phi9_lt h8)) (call_row (by omega) (Nat.succ_pos _) hcap (show (g9 _)[7]? = some (.oth (.ro obj)) by rw [← old _ e7]; rfl) hx)
      · have some8 : Start W ⟨.cells c2 u2 (0, 0), .cells c3 u3 (0, 0), .cells c5 u5 (0, 0), .cells c6 u6 (0, 0), .cells c7 u7 (0, 0), .oth (.ro obj)⟩ (some ⟨c, 0, 0⟩) := ⟨h0, h1, h4, e2, e3, e5, e6, e7, .inr ⟨c, obj, rfl, by omega, hobj, rfl⟩⟩
        exact law_calls some8 (hrv phi9_8) (call_row (by omega) (Nat.succ_pos _) hcap rfl hx)
end Go.Proofs.YtofkmenlcnjolaaGreatDoor
