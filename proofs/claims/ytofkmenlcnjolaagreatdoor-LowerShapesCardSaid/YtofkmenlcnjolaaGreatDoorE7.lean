/- The abstract evaluator of the model: texts Am An Ao. -/
import Derived.Test.YtofkmenlcnjolaaGreatDoorE6
import Derived.RangeFuncRecord
import Derived.Scope
/- The abstract evaluator, part Am: code and calls. -/
namespace Go.Ev
section
variable {P : Program} {N : Fns} {T : Ty} {G : Nat}

theorem least {I : Nat → Prop} : ∀ {k : Nat}, I k → ∃ m, I m ∧ ∀ j, I j → m ≤ j := by
  intro k
  induction k using Nat.strongRecOn with
  | _ k ih =>
    intro h
    by_cases hj : ∃ j, j < k ∧ I j
    · obtain ⟨j, h1, h2⟩ := hj
      exact ih j h1 h2
    · exact ⟨k, h, fun j h2 => by
        rcases Nat.lt_or_ge j k with h3 | h3
        · exact absurd ⟨j, h3, h2⟩ hj
        · exact h3⟩
open Classical in
/-- a loop by a number that goes down -/
theorem wp_loop_by {Fc : Fence} {n : Nat} {Q : Exit → Act → World → Prop} {c : Code} (I : Nat → Act → World → Prop) (round : ∀ k a w, I k a w → c.wpIn Fc n P (Exit.then (fun a' w' => ∃ m, m < k ∧ I m a' w') Q) a w) {k : Nat} {a : Act} {w : World} (h₀ : I k a w) : (Code.loop c).wpIn Fc n P Q a w := by
  refine wpIn_loop (fun a w => ∃ k, I k a w) (fun a w => if h : ∃ k, I k a w then Classical.choose (least (I := fun k => I k a w) (Classical.choose_spec h)) else 0) ⟨k, h₀⟩ ?_
  intro a w hI
  have hm := Classical.choose_spec (least (I := fun k => I k a w) (Classical.choose_spec hI))
  refine wpIn_mono (round _ a w hm.1) ?_
  intro e a' w' hq
  cases e with
  | normal =>
    obtain ⟨m, h1, h2⟩ := hq
    have hI' : ∃ k, I k a' w' := ⟨m, h2⟩
    have hm' := Classical.choose_spec (least (I := fun k => I k a' w') (Classical.choose_spec hI'))
    refine ⟨hI', ?_⟩
    show (if h : ∃ k, I k a' w' then Classical.choose (least (I := fun k => I k a' w') (Classical.choose_spec h)) else 0) < (if h : ∃ k, I k a w then Classical.choose (least (I := fun k => I k a w) (Classical.choose_spec h)) else 0)
    rw [dif_pos hI', dif_pos hI]
    exact Nat.lt_of_le_of_lt (hm'.2 m h2) h1
  | exit id => exact hq
  | goto l => exact hq
  | ret => exact hq
  | panic ch => exact hq
  | outgrown => exact hq

def X.exit' : X → Exit
  | .norm => .normal
  | .exit id => .exit id
  | .ret => .ret

/-- 'Ext' as far as the blocks below B go -/
structure ExtB (B : Nat) (φ : Phi) (H : Heap) (w : World) (ψ : Phi) (H' : Heap) (w' : World) : Prop where
  rel : Rel ψ H' w'
  le : ∀ {b : Nat} {l : Loc}, b < B → φ b = some l → ψ b = some l
  fresh : ∀ {b : Nat} {l : Loc}, (b < B → φ b = none) → ψ b = some l → B ≤ b ∧ (w.heap.size ≤ l.c ∨ ∃ b0 l0, φ b0 = some l0 ∧ l0.c = l.c)
  keepA : ∀ {b : Nat}, b < B → φ b = none → (∀ x y, H.get b ≠ .grp x y) → H'.get b = H.get b
  next : B ≤ H'.next
  keepC : ∀ {c : Nat}, c < w.heap.size → (∀ b l, φ b = some l → l.c ≠ c) → w'.heap[c]? = w.heap[c]?
  size : w.heap.size ≤ w'.heap.size
  same : Same w w'
  keepN : ∀ {b : Nat} {l : Loc}, b < B → φ b = some l → H.get b = .none → H'.get b = .none ∧ w'.heap[l.c]? = w.heap[l.c]?
theorem Ext.toB {B : Nat} {φ ψ : Phi} {H H' : Heap} {w w' : World} (h : Ext φ H w ψ H' w') (hB : B ≤ H.next) : ExtB B φ H w ψ H' w' := by
  refine ⟨h.rel, fun _ e => h.le _ _ e, ?_, fun hb h0 hg => h.keepA (Nat.lt_of_lt_of_le hb hB) h0 hg, Nat.le_trans hB h.next, h.keepC, h.size, h.same, fun _ e1 e2 => h.keepN e1 e2⟩
  intro b l hb e
  cases e0 : φ b with
  | none =>
    obtain ⟨h1, h2⟩ := h.fresh e0 e
    exact ⟨Nat.le_trans hB h1, h2⟩
  | some l0 =>
    refine ⟨Nat.le_of_not_lt (fun hlt => by rw [hb hlt] at e0; cases e0), .inr ⟨b, l0, e0, ?_⟩⟩
    rw [h.le b l0 e0] at e
    cases e
    rfl
theorem ExtB.full {φ ψ : Phi} {H H' : Heap} {w w' : World} (hr : Rel φ H w) (h : ExtB H.next φ H w ψ H' w') : Ext φ H w ψ H' w' := by
  have hlt : ∀ {b : Nat} {l : Loc}, φ b = some l → b < H.next := fun {b l} e => Nat.lt_of_not_le fun hb => by rw [(hr.top hb).1] at e; cases e
  exact ⟨h.rel, fun b l e => h.le (hlt e) e, fun h0 e => h.fresh (fun _ => h0) e, h.keepA, h.next, h.keepC, h.size, h.same, fun e1 e2 => h.keepN (hlt e1) e1 e2⟩
theorem ExtB.trans {B : Nat} {φ ψ χ : Phi} {H H1 H2 : Heap} {w w1 w2 : World} (h : ExtB B φ H w ψ H1 w1) (h' : ExtB B ψ H1 w1 χ H2 w2) : ExtB B φ H w χ H2 w2 := by
  have hold : ∀ {b0 : Nat} {l0 : Loc}, ψ b0 = some l0 → w.heap.size ≤ l0.c ∨ ∃ b1 l1, φ b1 = some l1 ∧ l1.c = l0.c := by
    intro b0 l0 e
    by_cases hc : b0 < B → φ b0 = none
    · exact (h.fresh hc e).2
    · have hc' : b0 < B ∧ φ b0 ≠ none := by
        refine ⟨Classical.byContradiction fun hn => hc fun h1 => absurd h1 hn, fun hn => hc fun _ => hn⟩
      cases e0 : φ b0 with
      | none => exact absurd e0 hc'.2
      | some l1 =>
        have := h.le hc'.1 e0
        rw [this] at e
        exact .inr ⟨b0, l1, e0, by rw [Option.some.inj e]⟩
  have hnone : ∀ {b : Nat}, b < B → φ b = none → ψ b = none := by
    intro b hb h0
    cases e : ψ b with
    | none => rfl
    | some l => exact absurd (h.fresh (fun _ => h0) e).1 (by omega)
  refine ⟨h'.rel, fun hb e => h'.le hb (h.le hb e), ?_, ?_, h'.next, ?_, Nat.le_trans h.size h'.size, h.same.trans h'.same, fun hb e1 e2 => let ⟨g1, g2⟩ := h.keepN hb e1 e2; let ⟨k1, k2⟩ := h'.keepN hb (h.le hb e1) g1; ⟨k1, k2.trans g2⟩⟩
  · intro b l hb e
    obtain ⟨h1, h2⟩ := h'.fresh (fun hlt => hnone hlt (hb hlt)) e
    refine ⟨h1, ?_⟩
    rcases h2 with h2 | ⟨b0, l0, e0, e1⟩
    · exact .inl (Nat.le_trans h.size h2)
    · rw [← e1]; exact hold e0
  · intro b hb h0 hg
    have h1 := h.keepA hb h0 hg
    rw [← h1]
    exact h'.keepA hb (hnone hb h0) (by rw [h1]; exact hg)
  · intro c hc hno
    rw [← h.keepC hc hno]
    refine h'.keepC (Nat.lt_of_lt_of_le hc h.size) (fun b l e => ?_)
    rcases hold e with h1 | ⟨b1, l1, h1, h2⟩
    · omega
    · rw [← h2]; exact hno b1 l1 h1
theorem GlobOk.ext {B : Nat} {φ ψ : Phi} {H H' : Heap} {w w' : World} (g : GlobOk G φ) (hG : G ≤ B) (h : ExtB B φ H w ψ H' w') : GlobOk G ψ := fun b hb => let ⟨l, e⟩ := g b hb; ⟨l, h.le (Nat.lt_of_lt_of_le hb hG) e⟩
theorem GlobOk.next {φ : Phi} {H : Heap} {w : World} (g : GlobOk G φ) (hr : Rel φ H w) : G ≤ H.next := by
  refine Nat.le_of_not_lt fun h => ?_
  obtain ⟨lim, e⟩ := g H.next h
  rw [(hr.top (Nat.le_refl _)).1] at e
  cases e

/-- marks of loops over functions: blocks that the heap does not know, from lo on -/
def Marks (φ : Phi) (w : World) (lo : Nat) : List Deferred → Prop
  | [] => True
  | d :: ds => (∃ r, d.target = .collected r ∧ lo ≤ r ∧ w.heap[r]? = some (.deferred (some [])) ∧ (∀ b l, φ b = some l → l.c ≠ r) ∧ (∀ d' ∈ ds, d'.target ≠ .collected r)) ∧ Marks φ w lo ds
theorem Marks.lower {φ : Phi} {w : World} {lo lo' : Nat} (h : lo' ≤ lo) : ∀ {ms : List Deferred}, Marks φ w lo ms → Marks φ w lo' ms
  | [], _ => trivial
  | _ :: _, ⟨⟨r, h1, h2, h3⟩, h4⟩ => ⟨⟨r, h1, Nat.le_trans h h2, h3⟩, h4.lower h⟩
theorem Marks.ext {B : Nat} {φ ψ : Phi} {H H' : Heap} {w w' : World} (h : ExtB B φ H w ψ H' w') {lo : Nat} : ∀ {ms : List Deferred}, Marks φ w lo ms → Marks ψ w' lo ms
  | [], _ => trivial
  | _ :: _, ⟨⟨r, h1, h2, h3, h4, h5⟩, h6⟩ => by
    have hlt : r < w.heap.size := (Array.getElem?_eq_some_iff.1 h3).1
    refine ⟨⟨r, h1, h2, (h.keepC hlt h4).trans h3, ?_, h5⟩, h6.ext h⟩
    intro b l e
    by_cases hc : b < B → φ b = none
    · rcases (h.fresh hc e).2 with g1 | ⟨b0, l0, g1, g2⟩
      · omega
      · rw [← g2]; exact h4 b0 l0 g1
    · have hc' : b < B ∧ φ b ≠ none := ⟨Classical.byContradiction fun hn => hc fun h1 => absurd h1 hn, fun hn => hc fun _ => hn⟩
      cases e0 : φ b with
      | none => exact absurd e0 hc'.2
      | some l0 =>
        have := h.le hc'.1 e0
        rw [this] at e
        have e' := Option.some.inj e
        rw [← e']
        exact h4 b l0 e0
theorem Marks.lt {φ : Phi} {w : World} {lo : Nat} : ∀ {ms : List Deferred}, Marks φ w lo ms → ∀ d ∈ ms, ∀ r, d.target = .collected r → lo ≤ r ∧ r < w.heap.size
  | [], _, d, hd => by cases hd
  | _ :: _, ⟨⟨r, h1, h2, h3, _⟩, h6⟩, d, hd => by
    intro r' hr'
    rcases List.mem_cons.1 hd with rfl | hd
    · rw [h1] at hr'
      cases hr'
      exact ⟨h2, (Array.getElem?_eq_some_iff.1 h3).1⟩
    · exact h6.lt d hd r' hr'
theorem Marks.app {φ : Phi} {w : World} {lo mid : Nat} (hlo : lo ≤ mid) : ∀ {ms ms' : List Deferred}, Marks φ w mid ms → Marks φ w lo ms' → (∀ d ∈ ms', ∀ r, d.target = .collected r → r < mid) → Marks φ w lo (ms ++ ms')
  | [], _, _, h, _ => h
  | _ :: _, _, ⟨⟨r, h1, h2, h3, h4, h5⟩, h6⟩, h', hm => by
    refine ⟨⟨r, h1, Nat.le_trans hlo h2, h3, h4, ?_⟩, Marks.app hlo h6 h' hm⟩
    intro d' hd' e
    rcases List.mem_append.1 hd' with hd' | hd'
    · exact h5 d' hd' e
    · have := hm d' hd' r e
      omega

/-- what code leaves -/
def WPost (B n : Nat) (φ : Phi) (H : Heap) (w : World) (a : Act) (Q : X → Fr → Heap → Prop) (e : Exit) (a' : Act) (w' : World) : Prop :=
  ∃ x F' H' ψ ms, e = X.exit' x ∧ ExtB B φ H w ψ H' w' ∧ Rf ψ F' a'.tmps ∧ a'.tmps.size = n ∧ a'.defers = ms ++ a.defers ∧ Marks ψ w' w.heap.size ms ∧ Q x F' H'
/-- code comes to what Q says, whatever is drawn -/
def WS (P : Program) (G B n : Nat) (rd : Bool) (c : Code) (F : Fr) (H : Heap) (Q : X → Fr → Heap → Prop) : Prop :=
  ∀ (φ : Phi) (a : Act) (w : World) (ro : Option Nat), (rd = false → ro = none) → a.tmps.size = n → Rel φ H w → Rf φ F a.tmps → GlobOk G φ → G ≤ B → B ≤ H.next → c.wpIn (fw ro) 0 P (WPost B n φ H w a Q) a w

theorem WPost.mono {B n : Nat} {φ : Phi} {H : Heap} {w : World} {a : Act} {Q Q' : X → Fr → Heap → Prop} (h : ∀ x F H, Q x F H → Q' x F H) {e : Exit} {a' : Act} {w' : World} (p : WPost B n φ H w a Q e a' w') : WPost B n φ H w a Q' e a' w' :=
  let ⟨x, F', H', ψ, ms, h1, h2, h3, h4, h5, h6, h7⟩ := p; ⟨x, F', H', ψ, ms, h1, h2, h3, h4, h5, h6, h _ _ _ h7⟩
theorem WPost.here {B n : Nat} {φ : Phi} {H : Heap} {w : World} {a : Act} {Q : X → Fr → Heap → Prop} {F : Fr} (x : X) (hn : a.tmps.size = n) (hr : Rel φ H w) (hf : Rf φ F a.tmps) (hB : B ≤ H.next) (h : Q x F H) : WPost B n φ H w a Q x.exit' a w :=
  ⟨x, F, H, φ, [], rfl, (Ext.refl hr).toB hB, hf, hn, rfl, trivial, h⟩
theorem WPost.after {B n : Nat} {φ ψ : Phi} {H H1 : Heap} {w w1 : World} {a a1 : Act} {ms : List Deferred} (h1 : ExtB B φ H w ψ H1 w1) (h2 : a1.defers = ms ++ a.defers) (h3 : Marks ψ w1 w.heap.size ms) {Q : X → Fr → Heap → Prop} {e : Exit} {a' : Act} {w' : World} (p : WPost B n ψ H1 w1 a1 Q e a' w') : WPost B n φ H w a Q e a' w' := by
  obtain ⟨x, F', H', χ, ms', g1, g2, g3, g4, g5, g6, g7⟩ := p
  refine ⟨x, F', H', χ, ms' ++ ms, g1, h1.trans g2, g3, g4, by rw [g5, h2, List.append_assoc], Marks.app h1.size g6 (h3.ext g2) (fun d hd r hr => (h3.lt d hd r hr).2), g7⟩
section
variable {B n : Nat} {rd : Bool} {F : Fr} {H : Heap} {Q Q' : X → Fr → Heap → Prop}
theorem WS.mono {c : Code} (hq : ∀ x F H, Q x F H → Q' x F H) (h : WS P G B n rd c F H Q) : WS P G B n rd c F H Q' := fun _ _ _ _ h1 h2 h3 h4 h5 h6 h7 => wpIn_mono (h _ _ _ _ h1 h2 h3 h4 h5 h6 h7) fun _ _ _ => WPost.mono hq
theorem WS_skip (h : Q .norm F H) : WS P G B n rd .skip F H Q := fun _ _ _ _ _ h2 h3 h4 _ _ h7 => wpIn_skip (WPost.here .norm h2 h3 h4 h7 h)
theorem WS_label {l : Nat} (h : Q .norm F H) : WS P G B n rd (.label l) F H Q := fun _ _ _ _ _ h2 h3 h4 _ _ h7 => wpIn_label (WPost.here .norm h2 h3 h4 h7 h)
theorem WS_ret (h : Q .ret F H) : WS P G B n rd .ret F H Q := fun _ _ _ _ _ h2 h3 h4 _ _ h7 => wpIn_ret (WPost.here .ret h2 h3 h4 h7 h)
theorem WS_exit {id : Nat} (h : Q (.exit id) F H) : WS P G B n rd (.exit id) F H Q := fun _ _ _ _ _ h2 h3 h4 _ _ h7 => wpIn_exit (WPost.here (.exit id) h2 h3 h4 h7 h)
def thenQ (K : Fr → Heap → Prop) (Q : X → Fr → Heap → Prop) : X → Fr → Heap → Prop
  | .norm, F, H => K F H
  | x, F, H => Q x F H
theorem WS_seq {c1 c2 : Code} (h : WS P G B n rd c1 F H (thenQ (fun F1 H1 => WS P G B n rd c2 F1 H1 Q) Q)) : WS P G B n rd (.seq c1 c2) F H Q := by
  intro φ a w ro h1 h2 h3 h4 h5 hGB hBn
  refine wpIn_seq (wpIn_mono (h _ _ _ _ h1 h2 h3 h4 h5 hGB hBn) ?_)
  rintro e a' w' ⟨x, F', H', ψ, ms, rfl, g2, g3, g4, g5, g6, g7⟩
  cases x with
  | norm => exact wpIn_mono (g7 _ _ _ _ h1 g4 g2.rel g3 (h5.ext hGB g2) hGB g2.next) fun _ _ _ => WPost.after g2 g5 g6
  | exit id => exact ⟨.exit id, F', H', ψ, ms, rfl, g2, g3, g4, g5, g6, g7⟩
  | ret => exact ⟨.ret, F', H', ψ, ms, rfl, g2, g3, g4, g5, g6, g7⟩
theorem WS_cond {y : Operand} {c1 c2 : Code} {f : Fr → V} {t : Bool} (hok : opdOk G n y = true) (hy : opd y = some f) (ht : f F = .bool t) (h : WS P G B n rd (if t then c1 else c2) F H Q) : WS P G B n rd (.cond y c1 c2) F H Q := by
  intro φ a w ro h1 h2 h3 h4 h5 hGB hBn
  have hv := opd_sound h4 h5 (by rw [h2]; exact opdOk_in hok) hy
  rw [ht] at hv
  refine wpIn_cond (t := t) ?_ (h _ _ _ _ h1 h2 h3 h4 h5 hGB hBn)
  generalize a.eval y = u at hv
  cases hv
  rfl
def blockQ (id : Nat) (Q : X → Fr → Heap → Prop) : X → Fr → Heap → Prop
  | .exit i, F, H => if i = id then Q .norm F H else Q (.exit i) F H
  | x, F, H => Q x F H
theorem WS_block {id : Nat} {c : Code} (h : WS P G B n rd c F H (blockQ id Q)) : WS P G B n rd (.block id c) F H Q := by
  intro φ a w ro h1 h2 h3 h4 h5 hGB hBn
  refine wpIn_block (wpIn_mono (h _ _ _ _ h1 h2 h3 h4 h5 hGB hBn) ?_)
  rintro e a' w' ⟨x, F', H', ψ, ms, rfl, g2, g3, g4, g5, g6, g7⟩
  cases x with
  | norm => exact ⟨.norm, F', H', ψ, ms, rfl, g2, g3, g4, g5, g6, g7⟩
  | ret => exact ⟨.ret, F', H', ψ, ms, rfl, g2, g3, g4, g5, g6, g7⟩
  | exit i =>
    show (if i = id then WPost B n φ H w a Q .normal a' w' else WPost B n φ H w a Q (.exit i) a' w')
    have g7' : if i = id then Q .norm F' H' else Q (.exit i) F' H' := g7
    by_cases hi : i = id
    · rw [if_pos hi] at g7' ⊢
      exact ⟨.norm, F', H', ψ, ms, rfl, g2, g3, g4, g5, g6, g7'⟩
    · rw [if_neg hi] at g7' ⊢
      exact ⟨.exit i, F', H', ψ, ms, rfl, g2, g3, g4, g5, g6, g7'⟩
theorem WS_loop {c : Code} (I : Nat → Fr → Heap → Prop) (hround : ∀ k F H, I k F H → WS P G B n rd c F H (thenQ (fun F1 H1 => ∃ m, m < k ∧ I m F1 H1) Q)) {k : Nat} (h0 : I k F H) : WS P G B n rd (.loop c) F H Q := by
  intro φ a w ro h1 h2 h3 h4 h5 hGB hBn
  refine wp_loop_by (fun k a1 w1 => ∃ F1 H1 ψ ms, I k F1 H1 ∧ ExtB B φ H w ψ H1 w1 ∧ Rf ψ F1 a1.tmps ∧ a1.tmps.size = n ∧ a1.defers = ms ++ a.defers ∧ Marks ψ w1 w.heap.size ms) ?_ (k := k) ⟨F, H, φ, [], h0, (Ext.refl h3).toB hBn, h4, h2, rfl, trivial⟩
  rintro k a1 w1 ⟨F1, H1, ψ, ms, e0, e1, e2, e3, e4, e5⟩
  refine wpIn_mono (hround k F1 H1 e0 _ _ _ _ h1 e3 e1.rel e2 (h5.ext hGB e1) hGB e1.next) ?_
  rintro e a' w' ⟨x, F', H', χ, ms', rfl, g2, g3, g4, g5, g6, g7⟩
  have hms : Marks χ w' w.heap.size (ms' ++ ms) := Marks.app e1.size g6 (e5.ext g2) (fun d hd r hr => (e5.lt d hd r hr).2)
  have hdf : a'.defers = (ms' ++ ms) ++ a.defers := by rw [g5, e4, List.append_assoc]
  cases x with
  | norm =>
    obtain ⟨m, hm, hI⟩ := g7
    exact ⟨m, hm, F', H', χ, ms' ++ ms, hI, e1.trans g2, g3, g4, hdf, hms⟩
  | exit id => exact ⟨.exit id, F', H', χ, ms' ++ ms, rfl, e1.trans g2, g3, g4, hdf, hms, g7⟩
  | ret => exact ⟨.ret, F', H', χ, ms' ++ ms, rfl, e1.trans g2, g3, g4, hdf, hms, g7⟩
theorem WS_region (hT : TOk P T) (hN : NOk P N) (hmix : P.follows .mixedOrders = true) {id : Nat} {ops : Array Oper} {draw : Bool} {l : List Ins} (hok : lall (operOk G n) ops.toList = true) (hp : plan N T ops.toList draw = some l) (h : RunsTo P G l F H (Q .norm)) : WS P G B n rd (.region id ops draw) F H Q := by
  intro φ a w ro h1 h2 h3 h4 h5 hGB hBn
  refine region_ok hT hN hmix (by rw [h2]; exact fun o ho => lall_iff.1 hok o ho) h3 h4 h5 hp h ?_
  intro ψ a' w' F' H' e1 e2 e3 e4 e5
  exact ⟨.norm, F', H', ψ, [], rfl, e1.toB hBn, e2, e3.trans h2, e4, trivial, e5⟩
theorem WS_scope {c : Code} (h : WS P G B n false c F H Q) : WS P G B n false (.scope c) F H Q := by
  intro φ a w ro h1 h2 h3 h4 h5 hGB hBn
  cases h1 rfl
  refine (wpIn_wide (n := 0)).2 (wp_scope_straight ((wpIn_wide (n := 0)).1 (wpIn_mono (h _ _ _ _ (fun _ => rfl) h2 h3 h4 h5 hGB hBn) ?_)))
  rintro e a' w' ⟨x, F', H', ψ, ms, rfl, g⟩
  cases x with
  | norm => exact ⟨.norm, F', H', ψ, ms, rfl, g⟩
  | exit id => exact ⟨.exit id, F', H', ψ, ms, rfl, g⟩
  | ret => exact ⟨.ret, F', H', ψ, ms, rfl, g⟩
end

/-- an object that the heap does not know -/
theorem ext_alloc {φ : Phi} {H : Heap} {w : World} (hr : Rel φ H w) (x : Obj) : Ext φ H w φ H (w.alloc x) := by
  have hfar : ∀ {c : Nat}, c < w.heap.size → (w.alloc x).heap[c]? = w.heap[c]? := by
    intro c h
    show (w.heap.push x)[c]? = _
    simp [Array.getElem?_push, Nat.ne_of_lt h]
  have hsz : (w.alloc x).heap.size = w.heap.size + 1 := by show (w.heap.push x).size = _; simp
  have hcell : ∀ {c i : Nat}, c < w.heap.size → (w.alloc x).cell? ⟨c, i, none⟩ = w.cell? ⟨c, i, none⟩ := by
    intro c i h; unfold World.cell?; rw [hfar h]
  have hfroz : ∀ {c i : Nat}, c < w.heap.size → (w.alloc x).frozen? ⟨c, i, none⟩ = w.frozen? ⟨c, i, none⟩ := by
    intro c i h; unfold World.frozen?; rw [hfar h]
  refine ⟨⟨?_, ?_, hr.len, hr.inj, hr.top, ?_, hr.mem, hr.flo, ?_⟩, Phi.le_refl φ, fun e1 e2 => absurd (e1.symm.trans e2) (by simp), fun _ _ _ => rfl, Nat.le_refl _, fun h _ => hfar h, by omega, Same.alloc w x, fun e1 e2 => ⟨e2, hfar (hr.loc e1)⟩⟩
  · intro b l cs g i v e1 e2 e3 e4
    rw [hcell (hr.loc e1)]
    exact hr.cell e1 e2 e3 e4
  · intro b l i e1 e2
    rw [hcell (hr.loc e1), hfroz (hr.loc e1)]
    exact hr.room e1 e2
  · intro b l e1
    have := hr.loc e1
    omega
  · intro b l o e1 e2
    obtain ⟨f1, f2⟩ := hr.oth e1 e2
    exact ⟨f1, f2.mono (Phi.le_refl φ) (hfar (hr.loc e1))⟩
/-- an object that the heap does not know changes -/
theorem ext_putO {φ : Phi} {H : Heap} {w : World} (hr : Rel φ H w) {c : Nat} (hc : ∀ b l, φ b = some l → l.c ≠ c) (x : Obj) : Rel φ H (putO w c x) := by
  have hsz : (putO w c x).heap.size = w.heap.size := by simp [putO]
  have hcell : ∀ {c' i : Nat}, c' ≠ c → (putO w c x).cell? ⟨c', i, none⟩ = w.cell? ⟨c', i, none⟩ := by
    intro c' i h; unfold World.cell?; rw [putO_far (fun e => h e.symm)]
  have hfroz : ∀ {c' i : Nat}, c' ≠ c → (putO w c x).frozen? ⟨c', i, none⟩ = w.frozen? ⟨c', i, none⟩ := by
    intro c' i h; unfold World.frozen?; rw [putO_far (fun e => h e.symm)]
  refine ⟨?_, ?_, hr.len, hr.inj, hr.top, ?_, hr.mem, hr.flo, ?_⟩
  · intro b l cs g i v e1 e2 e3 e4
    rw [hcell (hc b l e1)]
    exact hr.cell e1 e2 e3 e4
  · intro b l i e1 e2
    rw [hcell (hc b l e1), hfroz (hc b l e1)]
    exact hr.room e1 e2
  · intro b l e1
    rw [hsz]
    exact hr.loc e1
  · intro b l o e1 e2
    obtain ⟨f1, f2⟩ := hr.oth e1 e2
    exact ⟨f1, f2.mono (Phi.le_refl φ) (putO_far (fun e => hc b l e1 e.symm) x)⟩

theorem frame0_get : ∀ (args : List V) (i : Nat) (F : Fr) (t : Nat), (frame0 args i F).get V.undef t = if i ≤ t ∧ t < i + args.length then (args[t - i]?).getD V.undef else F.get V.undef t := by
  intro args
  induction args with
  | nil => intro i F t; rw [if_neg (by simp)]; rfl
  | cons v args ih =>
    intro i F t
    show (frame0 args (i + 1) (F.set V.undef i v)).get V.undef t = _
    rw [ih, Tr.get_set]
    simp only [List.length_cons]
    by_cases h1 : i = t
    · subst h1
      rw [if_neg (by omega), if_pos rfl, if_pos (by omega)]
      simp
    · by_cases h2 : i + 1 ≤ t ∧ t < i + 1 + args.length
      · rw [if_pos h2, if_pos (by omega)]
        have : t - i = (t - (i + 1)) + 1 := by omega
        rw [this]
        simp
      · rw [if_neg h2, if_neg h1, if_neg (by omega)]

def resF (tmps : Array Value) : ResultVar → Sem Value
  | .tmp t => pure (tmps.getD t undef)
  | .cell a t => do loadVar t (← asAddr (tmps.getD a undef))
theorem run_asAddr (a : Addr) (w : World) : (asAddr (.pointer (some a))).run P w = .ok a w := rfl
theorem results_ok (hT : TOk P T) {φ : Phi} {F : Fr} {H : Heap} {w : World} {tmps : Array Value} (hr : Rel φ H w) (hf : Rf φ F tmps) {fn : Func} (hn : ∀ x ∈ fn.results.toList, resOk tmps.size x = true) {l : List V} (h : resL T F H fn.results.toList = some l) :
    ∃ v', (results fn tmps).run P w = .ok v' w ∧ Rv φ (resM l) v' := by
  have key : ∀ (rs : List ResultVar), (∀ x ∈ rs, resOk tmps.size x = true) → ∀ l, resL T F H rs = some l → ∃ l', (rs.mapM (resF tmps)).run P w = .ok l' w ∧ Rvs φ l l' := by
    intro rs
    induction rs with
    | nil => intro _ l h; cases h; exact ⟨[], rfl, .nil⟩
    | cons x rs ih =>
      intro hn l h
      obtain ⟨v, hv, h⟩ := obind_some.1 (show obind (resV T F H x) (fun v => obind (resL T F H rs) fun r => some (v :: r)) = some l from h)
      obtain ⟨l2, hl2, h⟩ := obind_some.1 h
      cases h
      obtain ⟨l', h1, h2⟩ := ih (fun y hy => hn y (by simp [hy])) l2 hl2
      have hx := hn x (by simp)
      cases x with
      | tmp t =>
        cases hv
        refine ⟨tmps.getD t undef :: l', ?_, .cons (hf t ((ble_le _ _).1 hx)) h2⟩
        rw [List.mapM_cons]
        simp only [resF, Sem.run_bind, Sem.run_pure, Result.andThen_ok]
        rw [h1]
        rfl
      | cell a t =>
        obtain ⟨g, hg, hv⟩ := obind_some.1 (show obind (T.isAgg t) _ = some v from hv)
        obtain ⟨s, hs, hv⟩ := obind_some.1 hv
        obtain ⟨ad, e1, v', e2, e3⟩ := loadG_ok hT hr hg hs (hf a ((ble_le _ _).1 hx)) hv
        refine ⟨v' :: l', ?_, .cons e3 h2⟩
        rw [List.mapM_cons]
        have e4 : (resF tmps (.cell a t)).run P w = .ok v' w := by
          simp only [resF, Sem.run_bind, e1, run_asAddr, Result.andThen_ok, e2]
        rw [Sem.run_bind, e4]
        simp only [Result.andThen_ok, Sem.run_bind, h1, Sem.run_pure]
  obtain ⟨l', h1, h2⟩ := key _ hn l h
  have hm : (fn.results.mapM (resF tmps)).run P w = .ok ⟨l'⟩ w := by
    rw [Array.mapM_eq_mapM_toList]
    simp only [Sem.run_map, h1, Result.andThen_ok]
  refine ⟨if h : (⟨l'⟩ : Array Value).size = 1 then (⟨l'⟩ : Array Value)[0] else .tuple ⟨l'⟩, ?_, ?_⟩
  · have e : results fn tmps = (do let vs ← fn.results.mapM (resF tmps); pure (if h : vs.size = 1 then vs[0] else .tuple vs)) := rfl
    rw [e, Sem.run_bind, hm]
    rfl
  · cases h2 with
    | nil => exact .tup .nil
    | cons a b => cases b with
      | nil => simpa [resM] using a
      | cons b c =>
        rw [dif_neg (by simp)]
        exact .tup (.cons a (.cons b c))


/-- a function leaves: its marks go -/
theorem leaves_ok {fn : Func} {tmps : Array Value} {φ : Phi} {H H' : Heap} {w : World} {R : Ending → World → Prop} {ψ : Phi} {v : V} (hres : ∀ w', Rel ψ H' w' → ∃ v', (results fn tmps).run P w' = .ok v' w' ∧ Rv ψ v v') (hR : ∀ v' w', Ext φ H w ψ H' w' → Rv ψ v v' → R (.returned v') w') :
    ∀ (ms : List Deferred) (w' : World), Ext φ H w ψ H' w' → Marks ψ w' w.heap.size ms → LeavesInM (fw none) 0 P fn tmps R ms .returning w' := by
  intro ms
  induction ms with
  | nil =>
    intro w' he _
    obtain ⟨v', h1, h2⟩ := hres w' he.rel
    exact ⟨v', h1, hR v' w' he h2⟩
  | cons d ms ih =>
    rintro w' he ⟨⟨r, h1, h2, h3, h4, h5⟩, h6⟩
    have hlt : r < w'.heap.size := (Array.getElem?_eq_some_iff.1 h3).1
    refine ⟨by simp, .inl ⟨r, putO w' r (.deferred none), h1, run_takeDeferred h3, ih _ ?_ ?_⟩⟩
    · refine ⟨ext_putO he.rel h4 _, he.le, he.fresh, he.keepA, he.next, ?_, ?_, he.same.trans (same_putO h3 rfl (by simp) _), fun {b l} e1 e2 => let ⟨g1, g2⟩ := he.keepN e1 e2; ⟨g1, (putO_far (fun e => h4 b l (he.le b l e1) e.symm) _).trans g2⟩⟩
      · intro c hc hno
        rw [putO_far (by omega)]
        exact he.keepC hc hno
      · show w.heap.size ≤ (putO w' r (.deferred none)).heap.size
        have : (putO w' r (.deferred none)).heap.size = w'.heap.size := by simp [putO]
        rw [this]
        exact he.size
    · have key : ∀ (ms : List Deferred), (∀ d' ∈ ms, d'.target ≠ .collected r) → Marks ψ w' w.heap.size ms → Marks ψ (putO w' r (.deferred none)) w.heap.size ms := by
        intro ms
        induction ms with
        | nil => exact fun _ _ => trivial
        | cons d1 ms ih =>
          rintro hne ⟨⟨r1, g1, g2, g3, g4, g5⟩, g6⟩
          refine ⟨⟨r1, g1, g2, ?_, g4, g5⟩, ih (fun d' hd' => hne d' (by simp [hd'])) g6⟩
          rw [putO_far ?_]
          · exact g3
          · intro e
            subst e
            exact hne d1 (by simp) g1
      exact key ms h5 h6

theorem rf_frame0 {φ : Phi} {args : List V} {args' : List Value} {n : Nat} (h : Rvs φ args args') (hlen : args.length ≤ n) : Rf φ (frame0 args 0 .nil) ((⟨args'⟩ : Array Value) ++ Array.replicate (n - (⟨args'⟩ : Array Value).size) undef) := by
  have hal := h.length
  intro t ht
  have hsz : ((⟨args'⟩ : Array Value) ++ Array.replicate (n - (⟨args'⟩ : Array Value).size) undef).size = n := by simp; omega
  show Rv φ ((frame0 args 0 Tr.nil).get V.undef t) _
  rw [frame0_get]
  rw [hsz] at ht
  by_cases h1 : t < args.length
  · rw [if_pos (by omega)]
    obtain ⟨u, u', e1, e2, e3⟩ := h.getD h1
    rw [Nat.sub_zero, e1]
    have : ((⟨args'⟩ : Array Value) ++ Array.replicate (n - (⟨args'⟩ : Array Value).size) undef).getD t undef = u' := by
      have e4 := (List.getElem?_eq_some_iff.1 e2).2
      simp [Array.getElem?_append, show t < args'.length by omega, e4]
    show Rv φ u _
    rw [this]
    exact e3
  · rw [if_neg (by omega), Tr.get_nil]
    have : ((⟨args'⟩ : Array Value) ++ Array.replicate (n - (⟨args'⟩ : Array Value).size) undef).getD t undef = undef := by
      simp [Array.getElem?_append, show ¬ t < args'.length by omega]
      rw [Array.getElem?_replicate]
      split <;> rfl
    rw [this]
    exact .tup .nil

/-- a function by its body -/
theorem call_fn (hT : TOk P T) (hN : NOk P N) {f : FuncId} {fn : Func} {c : Code} {args : List V} {H : Heap} {Q : V → Heap → Prop} (hf : N.get Option.none f = some fn) (hb : fn.body = some c) (hok : and (fnOk G fn c) (Nat.ble (llen args) fn.ntmps) = true)
    (h : WS P G H.next fn.ntmps false c (frame0 args 0 .nil) H fun x F' H' => (∀ id, x ≠ .exit id) ∧ ∃ l, resL T F' H' fn.results.toList = some l ∧ Q (resM l) H') : CallTo P G (.fn f) args H Q := by
  rw [Bool.and_eq_true, ble_le, llen_eq] at hok
  obtain ⟨hok, hlen⟩ := hok
  unfold fnOk at hok
  rw [Bool.and_eq_true, Bool.and_eq_true] at hok
  obtain ⟨hname, hcode, hres⟩ := hok
  have hfn := hN f fn hf
  refine ⟨⟨fn, c, hfn, hb, by simpa using hname⟩, ?_⟩
  intro φ w args' hr hg hargs
  have hal := hargs.length
  have hsz : ((⟨args'⟩ : Array Value) ++ Array.replicate (fn.ntmps - (⟨args'⟩ : Array Value).size) undef).size = fn.ntmps := by simp; omega
  refine (callsIn_wide (n := 0)).1 (callsIn_of_wp_marks (F := fw none) hfn hb trivial ?_ rfl)
  refine wpIn_mono (h φ { tmps := (⟨args'⟩ : Array Value) ++ Array.replicate (fn.ntmps - (⟨args'⟩ : Array Value).size) undef, defers := [] } w none (fun _ => rfl) hsz hr (rf_frame0 hargs hlen) hg (hg.next hr) (Nat.le_refl _)) ?_
  rintro e a' w' ⟨x, F', H', ψ, ms, rfl, g2, g3, g4, g5, g6, gx, l, gl, gq⟩
  have hd : a'.defers = ms := by rw [g5]; simp
  have hleave : LeavesInM (fw none) 0 P fn a'.tmps (Post φ H w Q) a'.defers .returning w' := by
    rw [hd]
    refine leaves_ok (ψ := ψ) (H' := H') (v := resM l) (φ := φ) (H := H) (w := w) ?_ ?_ ms w' (g2.full hr) g6
    · intro w2 hr2
      exact results_ok hT hr2 g3 (by rw [g4]; exact fun y hy => lall_iff.1 hres y hy) gl
    · intro v' w2 he2 hv2
      exact ⟨resM l, v', H', ψ, rfl, he2, hv2, gq⟩
  cases x with
  | norm => exact hleave
  | ret => exact hleave
  | exit id => exact absurd rfl (gx id)

theorem loop?_some {H : Heap} {b : Nat} {L : ALoop} (h : H.loop? b = some L) : H.get b = .oth (.loop L) := by
  unfold Heap.loop? at h
  cases hb : H.get b <;> rw [hb] at h <;> first | (cases h; done) | skip
  rename_i o
  cases o <;> cases h
  rfl
theorem rf_params {φ : Phi} : ∀ {ps : List Nat} {args : List V} {F F' : Fr} {args' : List Value} {tmps : Array Value}, params0 ps args F = some F' → Rvs φ args args' → Rf φ F tmps →
    args'.length = ps.length ∧ Rf φ F' ((ps.zip args').foldl (fun tmps (t, a) => tmps.setIfInBounds t a) tmps) ∧ ((ps.zip args').foldl (fun tmps (t, a) => tmps.setIfInBounds t a) tmps).size = tmps.size := by
  intro ps
  induction ps with
  | nil =>
    intro args F F' args' tmps h hv hf
    cases args with
    | nil => cases hv; cases h; exact ⟨rfl, hf, rfl⟩
    | cons a args => cases h
  | cons p ps ih =>
    intro args F F' args' tmps h hv hf
    cases args with
    | nil => cases h
    | cons v args =>
      cases hv with
      | cons h1 h2 =>
        rename_i v' args'
        have h' : params0 ps args (Tr.setP V.undef v (path p) F) = some F' := h
        have hput : Rf φ (Tr.setP V.undef v (path p) F) (tmps.setIfInBounds p v') := Rf.put (a := { tmps := tmps, defers := [] }) (d := some p) hf h1
        obtain ⟨e1, e2, e3⟩ := ih h' h2 hput
        refine ⟨by simp [e1], e2, ?_⟩
        rw [List.zip_cons_cons, List.foldl_cons, e3]
        simp
/-- a round of a loop over a function -/
theorem call_yld {b : Nat} {args : List V} {H : Heap} {Q : V → Heap → Prop} {L : ALoop} (hL : H.loop? b = some L) {F : Fr} (hp : params0 L.params args L.F = some F)
    (h : WS P G H.next L.n true L.assign F H fun x F1 H1 => x = .norm ∧ ∃ L1, H1.loop? b = some L1 ∧ L1.st = 0 ∧ WS P G H.next L.n true L.body F1 (H1.set b (.oth (.loop { L1 with st := 1 }))) fun x _ H2 => ∃ L2, H2.loop? b = some L2 ∧ Q (.bool (isN x)) (H2.set b (.oth (.loop { L2 with st := stAfter x, pend := jumpOf x })))) :
    CallTo P G (.yld b) args H Q := by
  intro φ w args' l hr hg hargs hl
  obtain ⟨hbase, r, hr1, hr2, hr3, hr4, hr5, hr6, hr7, hr8⟩ := hr.oth hl (loop?_some hL)
  obtain ⟨e1, e2, e3⟩ := rf_params hp hargs hr2
  have hsz : (⟨args'⟩ : Array Value).size = r.params.size := by rw [hr4]; simpa using e1
  have hzip : ((r.params.zip ⟨args'⟩).foldl (fun tmps (t, a) => tmps.setIfInBounds t a) r.tmps) = ((L.params.zip args').foldl (fun tmps (t, a) => tmps.setIfInBounds t a) r.tmps) := by
    rw [hr4, ← Array.foldl_toList]
    simp
  refine ⟨r.fn, _, r.assign, r.body, run_yield hr1 hsz, ?_⟩
  rw [hr5, hzip]
  refine roundIn_of_wpIn (F := Fence.wide) trivial ?_
  refine wpIn_mono (h φ { tmps := (L.params.zip args').foldl (fun tmps (t, a) => tmps.setIfInBounds t a) r.tmps, defers := [] } w (some l.c) (by simp) (by show Array.size _ = _; rw [e3]; exact hr3) hr e2 hg (hg.next hr) (Nat.le_refl _)) ?_
  rintro e a' w' ⟨x, F1, H1, ψ, ms, rfl, g2, g3, g4, g5, g6, rfl, L1, gL, gst, gW⟩
  have hbn : b < H.next := Nat.lt_of_not_le fun hb => by rw [(hr.top hb).1] at hl; cases hl
  have hl1 : ψ b = some l := g2.le hbn hl
  obtain ⟨_, r1, k1, k2, k3, k4, k5, k6, k7, k8⟩ := g2.rel.oth hl1 (loop?_some gL)
  have hready : r1.state = .ready := by rw [k7, gst]; rfl
  have hext1 : Ext ψ H1 w' ψ (H1.set b (.oth (.loop { L1 with st := 1 }))) (putO w' l.c (.loop { r1 with state := .busy })) :=
    ext_oth g2.rel hl1 (loop?_some gL) ⟨{ r1 with state := .busy }, putO_at (g2.rel.loc hl1) _, k2, k3, k4, k5, k6, rfl, k8⟩
  refine ⟨putO w' l.c (.loop { r1 with state := .busy }), run_beginRound k1 hready, ?_⟩
  have hrb : r.body = L.body := hr6
  rw [hrb]
  refine wpIn_mono (gW _ _ _ (some l.c) (by simp) g4 hext1.rel g3 ((hg.ext (hg.next hr) g2).mono hext1.le) (hg.next hr) (Nat.le_trans g2.next hext1.next)) ?_
  rintro e a2 w2 ⟨x, F2, H2, χ, ms2, rfl, f2, f3, f4, f5, f6, L2, fL, fQ⟩
  have hl2 : χ b = some l := f2.le hbn hl1
  obtain ⟨_, r2, j1, j2, j3, j4, j5, j6, j7, j8⟩ := f2.rel.oth hl2 (loop?_some fL)
  have hfin : ∀ (jump : Option Code) (x : X), jumpOf x = jump → Q (.bool (isN x)) (H2.set b (.oth (.loop { L2 with st := stAfter x, pend := jumpOf x }))) → ∃ v w', (Instr.endRound l.c jump).run P w2 = .ok v w' ∧ Post φ H w Q (.returned v) w' := by
    intro jump x hj hq
    refine ⟨_, _, run_endRound jump j1, .bool (isN x), .bool jump.isNone, _, χ, rfl, ExtB.full hr (((g2.trans (hext1.toB g2.next)).trans f2).trans (Ext.toB (ext_oth f2.rel hl2 (loop?_some fL) (o' := .loop { L2 with st := stAfter x, pend := jumpOf x }) (x := .loop { r2 with state := if jump.isNone then .ready else .done, pending := jump }) ⟨{ r2 with state := if jump.isNone then .ready else .done, pending := jump }, putO_at (f2.rel.loc hl2) _, j2, j3, j4, j5, j6, ?_, hj.symm⟩) f2.next)), ?_, hq⟩
    · subst hj
      cases x <;> rfl
    · subst hj
      cases x <;> exact .bool _
  cases x with
  | norm => exact hfin none .norm rfl fQ
  | ret => exact hfin (some .ret) .ret rfl fQ
  | exit id => exact hfin (some (.exit id)) (.exit id) rfl fQ
/-- a loop over a function -/
theorem WS_range {B n : Nat} {F : Fr} {H : Heap} {Q : X → Fr → Heap → Prop} {g : Operand} {ps : Array Tmp} {assign body : Code} {y : Fr → V} {f : FuncId} {first captured : List V} (hok : opdOk G n g = true) (hg : opd g = some y) (hy : y F = .func f first captured)
    (h : CallTo P G (.fn f) (first ++ ([.yld H.next] ++ captured)) (H.push (.oth (.loop ⟨n, F, ps.toList, assign, body, 0, Option.none⟩))) fun _ H2 => ∃ L, H2.loop? H.next = some L ∧ L.st ≠ 1 ∧ ∃ x, L.pend = jumpOf x ∧ Q x F (H2.set H.next (.oth (.loop { L with st := 3 })))) :
    WS P G B n false (.rangeFunc g ps assign body) F H Q := by
  intro φ a w ro h1 h2 h3 h4 h5 hGB hBn
  cases h1 rfl
  refine wpIn_rangeFunc ?_
  intro fnid _
  have hv := opd_sound h4 h5 (by rw [h2]; exact opdOk_in hok) hg
  rw [hy] at hv
  generalize hgv : a.eval g = gv at hv
  cases hv with
  | func _ hf1 hf2 =>
  rename_i first' captured'
  have hex1 := ext_alloc h3 (.deferred (some []))
  have hsz1 : (w.alloc (.deferred (some []))).heap.size = w.heap.size + 1 := by show (w.heap.push _).size = _; simp
  let rec0 : Loop := { state := .ready, pending := none, fn := fnid, tmps := a.tmps, params := ps, assign, body, defers := w.heap.size }
  have hn : φ H.next = none := (h3.top (Nat.le_refl _)).1
  have hle := Phi.le_add (l := ⟨(w.alloc (.deferred (some []))).heap.size, 0, 0⟩) hn
  have hex2 : Ext φ H (w.alloc (.deferred (some []))) (φ.add H.next ⟨(w.alloc (.deferred (some []))).heap.size, 0, 0⟩) (H.push (.oth (.loop ⟨n, F, ps.toList, assign, body, 0, Option.none⟩))) ((w.alloc (.deferred (some []))).alloc (.loop rec0)) :=
    ext_newoth hex1.rel ⟨rec0, alloc_at _, h4.mono hle, h2, rfl, rfl, rfl, rfl, rfl⟩
  have hex := hex1.trans hex2
  have hself := Phi.add_self φ H.next ⟨(w.alloc (.deferred (some []))).heap.size, 0, 0⟩
  generalize hψ : φ.add H.next ⟨(w.alloc (.deferred (some []))).heap.size, 0, 0⟩ = ψ at hex hex2 hle hself
  rw [hsz1] at hself
  have hargs : Rvs ψ (first ++ ([.yld H.next] ++ captured)) (first' ++ ([.func (.yield (w.heap.size + 1)) #[] #[]] ++ captured')) :=
    (hf1.mono hle).append ((Rvs.cons (.yld hself) .nil).append (hf2.mono hle))
  obtain ⟨⟨fn, c, hfn, hbd, hnm⟩, hcall⟩ := h
  refine ⟨w.heap.size + 1, [{ target := .collected w.heap.size, args := #[] }], (w.alloc (.deferred (some []))).alloc (.loop rec0), { target := .fn (.func f) ⟨captured'⟩, args := ⟨first' ++ [.func (.yield (w.heap.size + 1)) #[] #[]]⟩ }, (w.alloc (.deferred (some []))).alloc (.loop rec0), f, ⟨first' ++ ([.func (.yield (w.heap.size + 1)) #[] #[]] ++ captured')⟩, (w.alloc (.deferred (some []))).alloc (.loop rec0), run_enterLoop_outer _ _ _ _ _, ?_, fun _ _ => trivial, ?_, fun h => by simp [fw, Fence.wide] at h, ?_⟩
  · simp [resolve, Act.eval, Deferred.ofValue]
    have : a.eval g = .func (.func f) ⟨first'⟩ ⟨captured'⟩ := hgv
    simp [Act.eval] at this
    simp [this]
  · simp only [invoke]
    rw [run_callFunc hfn hbd hnm]
    congr 2
    simp
  · refine callsFw ((hcall _ _ _ hex2.rel (h5.mono hle) hargs).mono ?_)
    rintro e w3 ⟨v, v', H2, χ, rfl, k1, k2, L, kL, kst, x, kp, kQ⟩
    have hl2 : χ H.next = some ⟨w.heap.size + 1, 0, 0⟩ := k1.le _ _ hself
    obtain ⟨_, r2, j1, j2, j3, j4, j5, j6, j7, j8⟩ := k1.rel.oth hl2 (loop?_some kL)
    have hnb : r2.state ≠ .busy := by
      rw [j7]
      intro e
      apply kst
      have key : ∀ st, stOf st = .busy → st = 1 := by
        intro st h
        match st, h with
        | 0, h => cases h
        | 1, _ => rfl
        | 2, h => cases h
        | n + 3, h => cases h
      exact key _ e
    have hex4 : Ext χ H2 w3 χ (H2.set H.next (.oth (.loop { L with st := 3 }))) (putO w3 (w.heap.size + 1) (.loop { r2 with state := .exhausted })) :=
      ext_oth k1.rel hl2 (loop?_some kL) ⟨{ r2 with state := .exhausted }, putO_at (k1.rel.loc hl2) _, j2, j3, j4, j5, j6, rfl, j8⟩
    have hfull := (hex.trans k1).trans hex4
    have hmark : Marks χ (putO w3 (w.heap.size + 1) (.loop { r2 with state := .exhausted })) w.heap.size [{ target := .collected w.heap.size, args := #[] }] := by
      have h0 : Marks ψ ((w.alloc (.deferred (some []))).alloc (.loop rec0)) w.heap.size [{ target := .collected w.heap.size, args := #[] }] := by
        refine ⟨⟨w.heap.size, rfl, Nat.le_refl _, ?_, ?_, by simp⟩, trivial⟩
        · show ((w.heap.push (.deferred (some []))).push (.loop rec0))[w.heap.size]? = _
          simp [Array.getElem?_push]
        · intro b l e
          rw [← hψ] at e
          unfold Phi.add at e
          split at e
          · cases e
            rw [hsz1]
            simp
          · have := h3.loc e
            omega
      exact (h0.ext (k1.toB (Nat.le_refl _))).ext (hex4.toB (Nat.le_refl _))
    have hpost : WPost B n φ H w a Q x.exit' { a with defers := [{ target := .collected w.heap.size, args := #[] }] ++ a.defers } (putO w3 (w.heap.size + 1) (.loop { r2 with state := .exhausted })) :=
      ⟨x, F, _, χ, _, rfl, hfull.toB hBn, (h4.mono hex.le).mono k1.le, h2, rfl, hmark, kQ⟩
    have hfin : ∀ jump : Option Code, jump = jumpOf x → (match jump with
       | none => WPost B n φ H w a Q .normal { a with defers := [{ target := .collected w.heap.size, args := #[] }] ++ a.defers } (putO w3 (w.heap.size + 1) (.loop { r2 with state := .exhausted }))
       | some c => c.wpIn (fw none) 0 P (WPost B n φ H w a Q) { a with defers := [{ target := .collected w.heap.size, args := #[] }] ++ a.defers } (putO w3 (w.heap.size + 1) (.loop { r2 with state := .exhausted }))) := by
      intro jump hj
      subst hj
      cases x with
      | norm => exact hpost
      | exit id => exact wpIn_exit hpost
      | ret => exact wpIn_ret hpost
    exact ⟨r2.pending, _, run_endLoop j1 hnb, hfin _ (j8.trans kp)⟩
end
end Go.Ev
/- The abstract evaluator, part An: what the evaluator computes is so. -/
namespace Go.Ev
section
variable {P : Program} {N : Fns} {T : Ty} {G : Nat} {O : CF}
/-- knowledge of calls is right -/
def CFOk (P : Program) (G : Nat) (cf : CF) : Prop := ∀ {t args H v H'}, cf t args H = some (v, H') → CallTo P G t args H fun v1 H1 => v1 = v ∧ H1 = H'
theorem noO_ok : CFOk P G noO := fun h => by cases h
/-- the code does what the evaluator says -/
def RunOk (P : Program) (G : Nat) (run : RF) : Prop := ∀ {B n : Nat} {rd : Bool} {c : Code} {F : Fr} {H : Heap} {x : X} {F' : Fr} {H' : Heap}, codeOk G n c = true → run n rd c F H = .ok x F' H' →
  WS P G B n rd c F H fun x1 F1 H1 => x1 = x ∧ F1 = F' ∧ H1 = H'

theorem andThen_ok {r : CR} {k : Fr → Heap → CR} {x : X} {F' : Fr} {H' : Heap} (h : andThen r k = .ok x F' H') : (∃ F1 H1, r = .ok .norm F1 H1 ∧ k F1 H1 = .ok x F' H') ∨ (r = .ok x F' H' ∧ x ≠ .norm) := by
  cases r with
  | fail => cases h
  | ok y F1 H1 =>
    cases y with
    | norm => exact .inl ⟨F1, H1, rfl, h⟩
    | exit id => cases h; exact .inr ⟨rfl, by simp⟩
    | ret => cases h; exact .inr ⟨rfl, by simp⟩
theorem step_of {cf : CF} (hcf : CFOk P G cf) {s : Step} {F F1 : Fr} {H H1 : Heap} (h : exec cf s F H = some (F1, H1)) {K : Fr → Heap → Prop} (hk : K F1 H1) : StepTo P G s F H K := by
  cases hw : s.want F with
  | none => unfold exec at h; rw [hw] at h; cases h
  | some b =>
    cases b with
    | false =>
      unfold exec at h
      rw [hw] at h
      cases h
      exact .inl ⟨hw, hk⟩
    | true =>
      refine .inr ⟨hw, ?_⟩
      have h0 := h
      unfold exec at h
      rw [hw] at h
      cases hc : s.cop with
      | call xs g =>
        have h' : obind (g (vals xs F)) (fun c => obind (cf c.1 c.2 H) fun r => some (put F s.dst r.1, r.2)) = some (F1, H1) := by simpa [hc] using h
        obtain ⟨⟨t, args⟩, h1, h2⟩ := obind_some.1 h'
        obtain ⟨⟨v, H2⟩, h3, h4⟩ := obind_some.1 h2
        cases h4
        exact ⟨t, args, h1, (hcf h3).mono fun v1 H3 ⟨e1, e2⟩ => by rw [e1, e2]; exact hk⟩
      | nxt x => simp [hc] at h
      | bad => simp [hc] at h
      | pu xs g => exact ⟨F1, H1, by unfold exec; rw [hw]; simpa [hc] using h, hk⟩
      | rd xs g => exact ⟨F1, H1, by unfold exec; rw [hw]; simpa [hc] using h, hk⟩
      | eff xs g => exact ⟨F1, H1, by unfold exec; rw [hw]; simpa [hc] using h, hk⟩
theorem runs_of {cf : CF} (hcf : CFOk P G cf) : ∀ {l : List Ins} {F F' : Fr} {H H' : Heap} {Q : Fr → Heap → Prop}, runIns cf l F H = some (F', H') → Q F' H' → RunsTo P G l F H Q := by
  intro l
  induction l with
  | nil => intro F F' H H' Q h hq; cases h; exact hq
  | cons i l ih =>
    intro F F' H H' Q h hq
    cases i with
    | ex s =>
      obtain ⟨⟨F1, H1⟩, h1, h2⟩ := obind_some.1 (show obind (exec cf s F H) (fun r => runIns cf l r.1 r.2) = some (F', H') from h)
      exact step_of hcf h1 (ih h2 hq)
    | re s =>
      obtain ⟨h1, h2⟩ := oif_some.1 (show oif (again s F H) (runIns cf l F H) = some (F', H') from h)
      exact ⟨h1, ih h2 hq⟩

theorem callF_ok (hT : TOk P T) (hN : NOk P N) {run : RF} (hrun : RunOk P G run) {f : FuncId} {args : List V} {H : Heap} {v : V} {H' : Heap} (h : callF G N T run f args H = some (v, H')) : CallTo P G (.fn f) args H fun v1 H1 => v1 = v ∧ H1 = H' := by
  obtain ⟨fn, hfn, h⟩ := obind_some.1 (show obind (N.get Option.none f) _ = some (v, H') from h)
  obtain ⟨c, hb, h⟩ := obind_some.1 h
  obtain ⟨hok, h⟩ := oif_some.1 h
  have hok' := hok
  rw [Bool.and_eq_true] at hok'
  have hcode : codeOk G fn.ntmps c = true := by
    have := hok'.1
    unfold fnOk at this
    rw [Bool.and_eq_true, Bool.and_eq_true] at this
    exact this.2.1
  cases hrc : run fn.ntmps false c (frame0 args 0 .nil) H with
  | fail => rw [hrc] at h; cases h
  | ok x F2 H2 =>
    rw [hrc] at h
    refine call_fn hT hN hfn hb hok ((hrun hcode hrc).mono ?_)
    rintro x1 F1 H1 ⟨rfl, rfl, rfl⟩
    cases x1 with
    | exit id => cases h
    | norm =>
      obtain ⟨l, hl, h3⟩ := obind_some.1 (show obind (resL T F1 H1 fn.results.toList) (fun l => some (resM l, H1)) = some (v, H') from h)
      cases h3
      exact ⟨by simp, l, hl, rfl, rfl⟩
    | ret =>
      obtain ⟨l, hl, h3⟩ := obind_some.1 (show obind (resL T F1 H1 fn.results.toList) (fun l => some (resM l, H1)) = some (v, H') from h)
      cases h3
      exact ⟨by simp, l, hl, rfl, rfl⟩
theorem callY_ok {run : RF} (hrun : RunOk P G run) {b : Nat} {args : List V} {H : Heap} {v : V} {H' : Heap} (h : callY G run b args H = some (v, H')) : CallTo P G (.yld b) args H fun v1 H1 => v1 = v ∧ H1 = H' := by
  obtain ⟨L, hL, h⟩ := obind_some.1 (show obind (H.loop? b) _ = some (v, H') from h)
  obtain ⟨hok, h⟩ := oif_some.1 h
  obtain ⟨F, hF, h⟩ := obind_some.1 h
  rw [Bool.and_eq_true] at hok
  cases hra : run L.n true L.assign F H with
  | fail => rw [hra] at h; cases h
  | ok x F1 H1 =>
    rw [hra] at h
    obtain ⟨hx, h⟩ := oif_some.1 (show oif (isN x) _ = some (v, H') from h)
    obtain ⟨L1, hL1, h⟩ := obind_some.1 h
    obtain ⟨hst, h⟩ := oif_some.1 h
    cases hrb : run L.n true L.body F1 (H1.set b (.oth (.loop { L1 with st := 1 }))) with
    | fail => rw [hrb] at h; cases h
    | ok y F2 H2 =>
      rw [hrb] at h
      obtain ⟨L2, hL2, h⟩ := obind_some.1 (show obind (H2.loop? b) _ = some (v, H') from h)
      cases h
      refine call_yld hL hF ((hrun hok.1 hra).mono ?_)
      rintro x1 F3 H3 ⟨rfl, rfl, rfl⟩
      refine ⟨(by cases x1 <;> first | rfl | cases hx), L1, hL1, (beq_eq _ _).1 hst, (hrun hok.2 hrb).mono ?_⟩
      rintro x2 F4 H4 ⟨rfl, rfl, rfl⟩
      exact ⟨L2, hL2, rfl, rfl⟩
theorem callW_ok (hT : TOk P T) (hN : NOk P N) (hO : CFOk P G O) {run : RF} (hrun : RunOk P G run) : CFOk P G (callW G N T O run) := by
  intro t args H v H' h
  have h' : Option.casesOn (motive := fun _ => Option (V × Heap)) (O t args H)
    (Tgt.casesOn (motive := fun _ => Option (V × Heap)) t (fun f => callF G N T run f args H) (fun b => callY G run b args H)) some = some (v, H') := h
  cases ho : O t args H with
  | some r =>
    rw [ho] at h'
    cases h'
    exact hO ho
  | none =>
    rw [ho] at h'
    cases t with
    | fn f => exact callF_ok hT hN hrun h'
    | yld b => exact callY_ok hrun h'
theorem run_ok (hT : TOk P T) (hN : NOk P N) (hO : CFOk P G O) (hmix : P.follows .mixedOrders = true) : ∀ fuel, RunOk P G (run G N T O fuel) := by
  intro fuel
  induction fuel using Nat.strongRecOn with
  | _ fuel ihs =>
   cases fuel with
   | zero => intro B n rd c F H x F' H' _ h; cases h
   | succ fuel =>
    have ih : RunOk P G (run G N T O fuel) := ihs fuel (by omega)
    intro B n rd c F H x F' H' hco h
    have hcf : CFOk P G (callW G N T O (run G N T O fuel)) := callW_ok hT hN hO ih
    cases c with
    | skip => cases h; exact WS_skip ⟨rfl, rfl, rfl⟩
    | region id ops draw =>
      have h' : regW (obind (plan N T ops.toList draw) fun l => runIns (callW G N T O (run G N T O fuel)) l F H) = .ok x F' H' := h
      cases ho : obind (plan N T ops.toList draw) (fun l => runIns (callW G N T O (run G N T O fuel)) l F H) with
      | none => rw [ho] at h'; cases h'
      | some q =>
        rw [ho] at h'
        cases h'
        obtain ⟨l, hpl, hrun⟩ := obind_some.1 ho
        exact WS_region hT hN hmix hco hpl (runs_of hcf hrun ⟨rfl, rfl, rfl⟩)
    | seq c1 c2 =>
      have hco' : and (codeOk G n c1) (codeOk G n c2) = true := hco
      rw [Bool.and_eq_true] at hco'
      refine WS_seq ?_
      rcases andThen_ok (show andThen (run G N T O fuel n rd c1 F H) (run G N T O fuel n rd c2) = .ok x F' H' from h) with ⟨F1, H1, h1, h2⟩ | ⟨h1, h2⟩
      · refine (ih hco'.1 h1).mono ?_
        rintro x1 F2 H2 ⟨rfl, rfl, rfl⟩
        exact ih hco'.2 h2
      · refine (ih hco'.1 h1).mono ?_
        rintro x1 F2 H2 ⟨rfl, rfl, rfl⟩
        cases x1 with
        | norm => exact absurd rfl h2
        | exit id => exact ⟨rfl, rfl, rfl⟩
        | ret => exact ⟨rfl, rfl, rfl⟩
    | cond y c1 c2 =>
      have hco' : and (opdOk G n y) (and (codeOk G n c1) (codeOk G n c2)) = true := hco
      rw [Bool.and_eq_true, Bool.and_eq_true] at hco'
      have h' : runCond (run G N T O fuel n rd) y c1 c2 F H = .ok x F' H' := h
      unfold runCond at h'
      cases hy : opd y with
      | none => rw [hy] at h'; cases h'
      | some f =>
        rw [hy] at h'
        have h2 : (match f F with | .bool t => Bool.casesOn (motive := fun _ => CR) t (run G N T O fuel n rd c2 F H) (run G N T O fuel n rd c1 F H) | _ => .fail) = .ok x F' H' := h'
        cases hf : f F <;> rw [hf] at h2 <;> first | (cases h2; done) | skip
        rename_i t
        refine WS_cond hco'.1 hy hf ?_
        cases t with
        | true => exact ih hco'.2.1 h2
        | false => exact ih hco'.2.2 h2
    | block id c =>
      have h' : inBlk id (run G N T O fuel n rd c F H) = .ok x F' H' := h
      have hcoc : codeOk G n c = true := hco
      refine WS_block ?_
      cases hrc : run G N T O fuel n rd c F H with
      | fail => rw [hrc] at h'; cases h'
      | ok y F1 H1 =>
        rw [hrc] at h'
        refine (ih hcoc hrc).mono ?_
        rintro x1 F2 H2 ⟨rfl, rfl, rfl⟩
        cases x1 with
        | norm => cases h'; exact ⟨rfl, rfl, rfl⟩
        | ret => cases h'; exact ⟨rfl, rfl, rfl⟩
        | exit i =>
          have h2 : Bool.casesOn (motive := fun _ => CR) (Nat.beq i id) (.ok (.exit i) F2 H2) (.ok .norm F2 H2) = CR.ok x F' H' := h'
          show if i = id then _ else _
          by_cases hid : i = id
          · rw [(beq_eq _ _).2 hid] at h2
            cases h2
            rw [if_pos hid]
            exact ⟨rfl, rfl, rfl⟩
          · rw [Bool.eq_false_iff.2 (fun e => hid ((beq_eq _ _).1 e))] at h2
            cases h2
            rw [if_neg hid]
            exact ⟨rfl, rfl, rfl⟩
    | loop c =>
      have hcoc : codeOk G n c = true := hco
      refine WS_loop (fun m F1 H1 => m ≤ fuel + 1 ∧ run G N T O m n rd (.loop c) F1 H1 = .ok x F' H') ?_ (k := fuel + 1) ⟨Nat.le_refl _, h⟩
      rintro m F1 H1 ⟨hm, hrun⟩
      cases m with
      | zero => cases hrun
      | succ m =>
        have ihm : RunOk P G (run G N T O m) := ihs m (by omega)
        rcases andThen_ok (show andThen (run G N T O m n rd c F1 H1) (run G N T O m n rd (.loop c)) = .ok x F' H' from hrun) with ⟨F2, H2, h1, h2⟩ | ⟨h1, h2⟩
        · refine (ihm hcoc h1).mono ?_
          rintro x1 F3 H3 ⟨rfl, rfl, rfl⟩
          exact ⟨m, by omega, by omega, h2⟩
        · refine (ihm hcoc h1).mono ?_
          rintro x1 F3 H3 ⟨rfl, rfl, rfl⟩
          cases x1 with
          | norm => exact absurd rfl h2
          | exit id => exact ⟨rfl, rfl, rfl⟩
          | ret => exact ⟨rfl, rfl, rfl⟩
    | rangeFunc g ps assign body =>
      have hco' : and (opdOk G n g) (and (codeOk G n assign) (codeOk G n body)) = true := hco
      rw [Bool.and_eq_true] at hco'
      cases rd with
      | true => cases h
      | false =>
        have h' : runRange n (callW G N T O (run G N T O fuel)) g ps assign body F H = .ok x F' H' := h
        unfold runRange at h'
        cases hy : opd g with
        | none => rw [hy] at h'; cases h'
        | some f =>
          rw [hy] at h'
          have h2 : (match f F with
            | .func f first captured => Option.casesOn (motive := fun _ => CR) (callW G N T O (run G N T O fuel) (.fn f) (lapp first (lapp [.yld H.next] captured)) (H.push (.oth (.loop ⟨n, F, ps.toList, assign, body, 0, Option.none⟩)))) .fail (fun r =>
                Option.casesOn (motive := fun _ => CR) (Heap.loop? r.2 H.next) .fail (fun L => Bool.casesOn (motive := fun _ => CR) (Nat.beq L.st 1)
                  (match L.pend with
                   | Option.none => .ok .norm F (r.2.set H.next (.oth (.loop { L with st := 3 })))
                   | some (.exit id) => .ok (.exit id) F (r.2.set H.next (.oth (.loop { L with st := 3 })))
                   | some .ret => .ok .ret F (r.2.set H.next (.oth (.loop { L with st := 3 })))
                   | _ => .fail) .fail))
            | _ => .fail) = CR.ok x F' H' := h'
          cases hf : f F <;> rw [hf] at h2 <;> first | (cases h2; done) | skip
          rename_i fid first captured
          simp only [] at h2
          cases hcl : callW G N T O (run G N T O fuel) (.fn fid) (lapp first (lapp [.yld H.next] captured)) (H.push (.oth (.loop ⟨n, F, ps.toList, assign, body, 0, Option.none⟩))) with
          | none => rw [hcl] at h2; cases h2
          | some r =>
            obtain ⟨v, H2⟩ := r
            rw [hcl] at h2
            simp only [] at h2
            cases hlp : H2.loop? H.next with
            | none => rw [hlp] at h2; cases h2
            | some L =>
              rw [hlp] at h2
              simp only [] at h2
              cases hst : Nat.beq L.st 1 with
              | true => rw [hst] at h2; cases h2
              | false =>
                rw [hst] at h2
                simp only [] at h2
                have hcl' := hcf hcl
                rw [lapp_eq, lapp_eq] at hcl'
                refine WS_range hco'.1 hy hf (hcl'.mono ?_)
                rintro v1 H3 ⟨rfl, rfl⟩
                refine ⟨L, hlp, (fun e => by rw [(beq_eq _ _).2 e] at hst; cases hst), ?_⟩
                split at h2
                · rename_i hp; cases h2; exact ⟨.norm, hp, rfl, rfl, rfl⟩
                · rename_i id hp; cases h2; exact ⟨.exit id, hp, rfl, rfl, rfl⟩
                · rename_i hp; cases h2; exact ⟨.ret, hp, rfl, rfl, rfl⟩
                · cases h2
    | exit id => cases h; exact WS_exit ⟨rfl, rfl, rfl⟩
    | label l => cases h; exact WS_label ⟨rfl, rfl, rfl⟩
    | ret => cases h; exact WS_ret ⟨rfl, rfl, rfl⟩
    | scope c =>
      cases rd with
      | true => cases h
      | false => exact WS_scope (ih (show codeOk G n c = true from hco) (show run G N T O fuel n false c F H = .ok x F' H' from h))
    | goto _ => cases h
    | refuse _ => cases h
theorem call_ok (hT : TOk P T) (hN : NOk P N) (hO : CFOk P G O) (hmix : P.follows .mixedOrders = true) (fuel : Nat) : CFOk P G (callE G N T O fuel) := callW_ok hT hN hO (run_ok hT hN hO hmix fuel)
end
theorem trOf_get {α : Type} : ∀ (l : List α) (k : Nat) (t : Tr (Option α)) (i : Nat), (trOf l k t).get none i = if k ≤ i ∧ i < k + l.length then l[i - k]? else t.get none i := by
  intro l
  induction l with
  | nil => intro k t i; rw [if_neg (by simp)]; rfl
  | cons a l ih =>
    intro k t i
    show (trOf l (k + 1) (t.set none k (some a))).get none i = _
    rw [ih, Tr.get_set]
    simp only [List.length_cons]
    by_cases h1 : k = i
    · subst h1
      rw [if_neg (by omega), if_pos rfl, if_pos (by omega)]
      simp
    · by_cases h2 : k + 1 ≤ i ∧ i < k + 1 + l.length
      · rw [if_pos h2, if_pos (by omega)]
        have : i - k = (i - (k + 1)) + 1 := by omega
        rw [this]
        simp
      · rw [if_neg h2, if_neg h1, if_neg (by omega)]
theorem trOf_nil {α : Type} {l : List α} {i : Nat} {x : α} (h : (trOf l 0 .nil).get none i = some x) : l[i]? = some x := by
  rw [trOf_get] at h
  split at h
  · simpa using h
  · rw [Tr.get_nil] at h; cases h
theorem fns_ok (P : Program) : NOk P (fnsOf P) := by
  intro f fn h
  have := trOf_nil (show (trOf P.funcs.toList 0 .nil).get none f = some fn from h)
  simpa using this
theorem trBy_get (f : Nat → Bool) : ∀ (l : List TypeInfo) (k : Nat) (t : Tr Bool) (i : Nat), (trBy f l k t).get false i = if k ≤ i ∧ i < k + l.length then f i else t.get false i := by
  intro l
  induction l with
  | nil => intro k t i; rw [if_neg (by simp)]; rfl
  | cons a l ih =>
    intro k t i
    show (trBy f l (k + 1) (t.set false k (f k))).get false i = _
    rw [ih, Tr.get_set]
    simp only [List.length_cons]
    by_cases h1 : k = i
    · subst h1
      rw [if_neg (by omega), if_pos rfl, if_pos (by omega)]
    · by_cases h2 : k + 1 ≤ i ∧ i < k + 1 + l.length
      · rw [if_pos h2, if_pos (by omega)]
      · rw [if_neg h2, if_neg h1, if_neg (by omega)]
theorem tys_ok (P : Program) : TOk P (tysOf P) := by
  refine ⟨?_, ?_⟩
  rotate_right
  · intro t h
    have h1 : (trBy (fun t => !(P.stoodInHeld t)) P.types.toList 0 .nil).get false t = true := h
    rw [trBy_get] at h1
    split at h1
    · simpa using h1
    · rw [Tr.get_nil] at h1; cases h1
  intro t i h
  have h1 := trOf_nil (show (trOf P.types.toList 0 .nil).get none t = some i from h)
  have h2 : P.types[t]? = some i := by simpa using h1
  have h3 : t < P.types.size := (Array.getElem?_eq_some_iff.1 h2).1
  unfold Tables.info?
  rw [if_pos h3]
  exact h2

/-- the globals, of which nothing is known -/
def phi0 (G : Nat) : Phi := fun g => if g < G then some ⟨g, 0, 0⟩ else none
def heap0 (G : Nat) : Heap := ⟨.nil, G⟩
theorem glob0 (G : Nat) : GlobOk G (phi0 G) := fun g h => ⟨0, by simp [phi0, h]⟩
theorem rel0 {G : Nat} {w : World} (h : G ≤ w.heap.size) : Rel (phi0 G) (heap0 G) w := by
  have hn : ∀ b, (heap0 G).get b = .none := fun b => Tr.get_nil _ _
  have hp : ∀ {b : Nat} {l : Loc}, phi0 G b = some l → b < G ∧ l = ⟨b, 0, 0⟩ := by
    intro b l h
    unfold phi0 at h
    split at h
    · cases h; exact ⟨by assumption, rfl⟩
    · cases h
  refine ⟨?_, ?_, ?_, ?_, ?_, ?_, ?_, ?_, ?_⟩
  rotate_right
  · intro b l o _ h2; rw [hn] at h2; cases h2
  · intro b l cs g i v _ h2; rw [hn] at h2; cases h2
  · intro b l i h1 h2
    obtain ⟨_, rfl⟩ := hp h1
    exact absurd h2 (Nat.not_lt_zero _)
  · intro b l cs g _ h2; rw [hn] at h2; cases h2
  · intro b b' l l' h1 h2 h3 h4
    obtain ⟨_, rfl⟩ := hp h1
    obtain ⟨_, rfl⟩ := hp h2
    exact absurd h3 h4
  · intro b hb
    refine ⟨?_, hn b⟩
    have : ¬ b < G := Nat.not_lt.2 hb
    simp [phi0, this]
  · intro b l h1
    obtain ⟨h2, rfl⟩ := hp h1
    exact Nat.lt_of_lt_of_le h2 h
  · intro b cs g leaf fl h1; rw [hn] at h1; cases h1
  · intro g leaf fl h1; rw [hn] at h1; cases h1

end Go.Ev
/- The abstract evaluator, part Ao: smaller heaps. -/
namespace Go.Ev
/-- the places of blocks, seen through σ, below k -/
def Phi.view (φ : Phi) (σ : Nat → Nat) (k : Nat) : Phi := fun b => if b < k then φ (σ b) else none
theorem Phi.view_some {φ : Phi} {σ : Nat → Nat} {k b : Nat} {l : Loc} (h : φ.view σ k b = some l) : b < k ∧ φ (σ b) = some l := by
  unfold Phi.view at h
  split at h
  · exact ⟨by assumption, h⟩
  · cases h
theorem Phi.view_of {φ : Phi} {σ : Nat → Nat} {k b : Nat} {l : Loc} (hb : b < k) (h : φ (σ b) = some l) : φ.view σ k b = some l := by
  unfold Phi.view
  rw [if_pos hb]
  exact h
mutual
/-- a value of the greater heap, and what the smaller one knows of it -/
inductive Vw (σ : Nat → Nat) (k : Nat) : V → V → Prop
  | bool (b : Bool) : Vw σ k (.bool b) (.bool b)
  | int (i : IntKind) (n : Int) : Vw σ k (.int i n) (.int i n)
  | str (s : List UInt8) : Vw σ k (.str s) (.str s)
  | ptr {b : Nat} (o : Nat) (h : b < k) : Vw σ k (.ptr (σ b) o) (.ptr b o)
  | nilp : Vw σ k .nilp .nilp
  | slice {b : Nat} (o len : Nat) (cap : Cap) (h : b < k) : Vw σ k (.slice (σ b) o len cap) (.slice b o len cap)
  | sliceO {b : Nat} (o len : Nat) (cap : Cap) (h : b < k) : Vw σ k (.slice (σ b) o len cap) (.slice b o len .opaq)
  | nils : Vw σ k .nils .nils
  | emp : Vw σ k .emp .emp
  | map {b : Nat} (h : b < k) : Vw σ k (.map (σ b)) (.map b)
  | nilm : Vw σ k .nilm .nilm
  | func (f : FuncId) {xs ys xs' ys' : List V} (h1 : Vws σ k xs xs') (h2 : Vws σ k ys ys') : Vw σ k (.func f xs ys) (.func f xs' ys')
  | nilf : Vw σ k .nilf .nilf
  | iface (t : TypeId) {v v' : V} (h : Vw σ k v v') : Vw σ k (.iface t v) (.iface t v')
  | nili : Vw σ k .nili .nili
  | agg {xs xs' : List V} (h : Vws σ k xs xs') : Vw σ k (.agg xs) (.agg xs')
  | tup {xs xs' : List V} (h : Vws σ k xs xs') : Vw σ k (.tup xs) (.tup xs')
  | yld {b : Nat} (h : b < k) : Vw σ k (.yld (σ b)) (.yld b)
  | any (v : V) : Vw σ k v .any
  | cell {v : V} (h : v.one = true) : Vw σ k v .cell
inductive Vws (σ : Nat → Nat) (k : Nat) : List V → List V → Prop
  | nil : Vws σ k [] []
  | cons {v v' : V} {vs vs' : List V} (h : Vw σ k v v') (h' : Vws σ k vs vs') : Vws σ k (v :: vs) (v' :: vs')
end
theorem Vws.length {σ : Nat → Nat} {k : Nat} : ∀ {a b : List V}, Vws σ k a b → a.length = b.length
  | _, _, .nil => rfl
  | _, _, .cons _ h => by simp [h.length]
theorem Vws.get {σ : Nat → Nat} {k : Nat} : ∀ {a b : List V}, Vws σ k a b → ∀ (i : Nat) (x : V), b[i]? = some x → ∃ y, a[i]? = some y ∧ Vw σ k y x
  | _, _, .nil, i, x, h => by simp at h
  | _, _, .cons a b, 0, x, h => by simp at h; subst h; exact ⟨_, rfl, a⟩
  | _, _, .cons _ b, i + 1, x, h => by simpa using b.get i x (by simpa using h)
mutual
theorem Rv.view {φ : Phi} {σ : Nat → Nat} {k : Nat} : ∀ {v v2 : V} {v' : Value}, Vw σ k v v2 → Rv φ v v' → Rv (φ.view σ k) v2 v'
  | _, _, _, .bool b, .bool _ => .bool b
  | _, _, _, .int i n, .int _ _ => .int i n
  | _, _, _, .str s, .str _ => .str s
  | _, _, _, .ptr o h, .ptr e => .ptr (Phi.view_of h e)
  | _, _, _, .nilp, .nilp => .nilp
  | _, _, _, .slice o len cap h, .slice e h1 h2 => .slice (Phi.view_of h e) h1 h2
  | _, _, _, .sliceO o len cap h, .slice e h1 _ => .slice (Phi.view_of h e) h1 trivial
  | _, _, _, .nils, .nils => .nils
  | _, _, _, .emp, .emp a c => .emp a c
  | _, _, _, .map h, .map e => .map (Phi.view_of h e)
  | _, _, _, .nilm, .nilm => .nilm
  | _, _, _, .func f h1 h2, .func _ g1 g2 => .func f (Rvs.view h1 g1) (Rvs.view h2 g2)
  | _, _, _, .nilf, .nilf => .nilf
  | _, _, _, .iface t h, .iface _ g => .iface t (Rv.view h g)
  | _, _, _, .nili, .nili => .nili
  | _, _, _, .agg h, .agg g => .agg (Rvs.view h g)
  | _, _, _, .tup h, .tup g => .tup (Rvs.view h g)
  | _, _, _, .yld h, .yld e => .yld (Phi.view_of h e)
  | _, _, v', .any _, _ => .any v'
  | _, _, _, .cell h, g => .cell (one_ok g h)
theorem Rvs.view {φ : Phi} {σ : Nat → Nat} {k : Nat} : ∀ {a b : List V} {c : List Value}, Vws σ k a b → Rvs φ a c → Rvs (φ.view σ k) b c
  | _, _, _, .nil, .nil => .nil
  | _, _, _, .cons h h', .cons g g' => .cons (Rv.view h g) (Rvs.view h' g')
end
/-- the same for objects that are no rows -/
def Ow (σ : Nat → Nat) (k : Nat) : Oth → Oth → Prop
  | .map es, .map es2 => es.length = es2.length ∧ ∀ (i : Nat) (a v : V), es2[i]? = some (a, v) → ∃ a0 v0, es[i]? = some (a0, v0) ∧ Vw σ k a0 a ∧ Vw σ k v0 v
  | .iter m s l c t, .iter m2 s2 l2 c2 t2 => m2 < k ∧ m = σ m2 ∧ s = s2 ∧ l = l2 ∧ c = c2 ∧ t = t2
  | .text s p, .text s2 p2 => s = s2 ∧ p = p2
  | _, _ => False
theorem othOk.view {φ : Phi} {σ : Nat → Nat} {k : Nat} {w : World} {c : Nat} {o o2 : Oth} (h : Ow σ k o o2) (r : othOk φ w c o) : othOk (φ.view σ k) w c o2 := by
  cases o with
  | map es =>
    cases o2 <;> first | (exact h.elim) | skip
    rename_i es2
    obtain ⟨h1, h2⟩ := h
    obtain ⟨es', g1, g2, g3⟩ := r
    refine ⟨es', by rw [← h1]; exact g1, by rw [← h1]; exact g2, ?_⟩
    intro i a v hi
    obtain ⟨a0, v0, e1, e2, e3⟩ := h2 i a v hi
    obtain ⟨e, f1, f2, f3, f4⟩ := g3 i a0 v0 e1
    exact ⟨e, f1, Rv.view e2 f2, Rv.view e3 f3, f4⟩
  | iter m s l cu t =>
    cases o2 <;> first | (exact h.elim) | skip
    obtain ⟨h1, rfl, rfl, rfl, rfl, rfl⟩ := h
    obtain ⟨lm, seen, g1, g2⟩ := r
    exact ⟨lm, seen, Phi.view_of h1 g1, g2⟩
  | text s p =>
    cases o2 <;> first | (exact h.elim) | skip
    obtain ⟨rfl, rfl⟩ := h
    exact r
  | loop L => cases o2 <;> exact h.elim
  | ro x => cases o2 <;> exact h.elim

/-- H2 knows part of what H knows; below B all of it -/
structure View (B : Nat) (σ : Nat → Nat) (H H2 : Heap) : Prop where
  lo : B ≤ H2.next
  low : ∀ b, b < B → σ b = b
  inj : ∀ b b', b < H2.next → b' < H2.next → σ b = σ b' → b = b'
  top : ∀ b, H2.next ≤ b → H2.get b = .none
  none : ∀ b cs g, B ≤ b → b < H2.next → H2.get b = .none → H.get (σ b) = .cells cs g → g = 0 ∨ (B ≤ g ∧ ∃ fl, H.get g = .grp (σ b) fl)
  keep : ∀ b, b < B → H2.get b = H.get b
  grpB : ∀ b cs g, b < B → H.get b = .cells cs g → g < B
  live : ∀ b cs2 g2, H2.get b = .cells cs2 g2 → H2.lives b g2 = true → ∃ cs g, H.get (σ b) = .cells cs g ∧ H.lives (σ b) g = true ∧ Vws σ H2.next cs cs2
  new : ∀ b cs2 g2, B ≤ b → H2.get b = .cells cs2 g2 → H2.lives b g2 = true ∧ ∃ cs g, H.get (σ b) = .cells cs g ∧ (g2 = 0 → g = 0 ∨ (B ≤ g ∧ ∃ fl, H.get g = .grp (σ b) fl)) ∧ (g2 ≠ 0 → B ≤ g2 ∧ H2.get g2 = .grp b b ∧ g ≠ 0 ∧ B ≤ g ∧ ∃ fl, H.get g = .grp (σ b) fl)
  grp : ∀ g leaf fl, B ≤ g → H2.get g = .grp leaf fl → fl ≤ leaf ∧ ∃ x y, H.get (σ g) = .grp x y
  oth : ∀ b o2, H2.get b = .oth o2 → ∃ o, H.get (σ b) = .oth o ∧ Ow σ H2.next o o2

theorem Rel.view {B : Nat} {σ : Nat → Nat} {φ : Phi} {H H2 : Heap} {w : World} (hr : Rel φ H w) (hv : View B σ H H2) : Rel (φ.view σ H2.next) H2 w := by
  refine ⟨?_, ?_, ?_, ?_, ?_, ?_, ?_, ?_, ?_⟩
  · intro b l cs2 g2 i v2 e1 e2 e3 e4
    obtain ⟨_, e1⟩ := Phi.view_some e1
    obtain ⟨cs, g, h1, h2, h3⟩ := hv.live b cs2 g2 e2 e3
    obtain ⟨v, h4, h5⟩ := h3.get i v2 e4
    obtain ⟨v', h6, h7⟩ := hr.cell e1 h1 h2 h4
    exact ⟨v', h6, Rv.view h5 h7⟩
  · intro b l i e1 e2
    exact hr.room (Phi.view_some e1).2 e2
  · intro b l cs2 g2 e1 e2
    obtain ⟨_, e1⟩ := Phi.view_some e1
    by_cases hlt : b < B
    · rw [hv.low b hlt] at e1
      rw [hv.keep b hlt] at e2
      exact hr.len e1 e2
    · obtain ⟨hl, _⟩ := hv.new b cs2 g2 (Nat.le_of_not_lt hlt) e2
      obtain ⟨cs, g, h1, h2, h3⟩ := hv.live b cs2 g2 e2 hl
      rw [← h3.length]
      exact hr.len e1 h1
  · intro b b' l l' e1 e2 e3 e4
    obtain ⟨hb, e1⟩ := Phi.view_some e1
    obtain ⟨hb', e2⟩ := Phi.view_some e2
    obtain ⟨a, a', g, h1, h2, h3⟩ := hr.inj e1 e2 e3 (fun e => e4 (hv.inj b b' hb hb' e))
    have hcells : ∀ {x : Nat} {ax : List V}, H.get (σ x) = .cells ax g → x < H2.next → (x < B ∧ H2.get x = .cells ax g) ∨ (B ≤ x ∧ B ≤ g ∧ ∃ fl, H.get g = .grp (σ x) fl) := by
      intro x ax hx hxn
      by_cases hlt : x < B
      · refine .inl ⟨hlt, ?_⟩
        rw [hv.keep x hlt, ← hv.low x hlt, hv.low x hlt]
        rw [hv.low x hlt] at hx
        exact hx
      · have hge := Nat.le_of_not_lt hlt
        refine .inr ⟨hge, ?_⟩
        cases hg : H2.get x with
        | none => exact (hv.none x ax g hge hxn hg hx).elim (fun e => absurd e h1) id
        | cells cs2 g2 =>
          obtain ⟨_, cs, g', k1, k2, k3⟩ := hv.new x cs2 g2 hge hg
          rw [hx] at k1
          cases k1
          by_cases hz : g2 = 0
          · exact (k2 hz).elim (fun e => absurd e h1) id
          · obtain ⟨_, _, _, m1, m2⟩ := k3 hz
            exact ⟨m1, m2⟩
        | grp p q =>
          obtain ⟨_, x', y', k1⟩ := hv.grp x p q hge hg
          rw [hx] at k1
          cases k1
        | oth o2 =>
          obtain ⟨o, k1, _⟩ := hv.oth x o2 hg
          rw [hx] at k1
          cases k1
    rcases hcells h2 hb with ⟨p1, p2⟩ | ⟨p1, p2, p3⟩
    · rcases hcells h3 hb' with ⟨q1, q2⟩ | ⟨q1, q2, q3⟩
      · exact ⟨a, a', g, h1, p2, q2⟩
      · rw [hv.low b p1] at h2
        have := hv.grpB b a g p1 h2
        omega
    · rcases hcells h3 hb' with ⟨q1, q2⟩ | ⟨q1, q2, q3⟩
      · rw [hv.low b' q1] at h3
        have := hv.grpB b' a' g q1 h3
        omega
      · obtain ⟨f1, p3⟩ := p3
        obtain ⟨f2, q3⟩ := q3
        rw [p3] at q3
        have e5 : σ b = σ b' := by injection q3
        exact absurd (hv.inj b b' hb hb' e5) e4
  · intro b hb
    exact ⟨by unfold Phi.view; rw [if_neg (by omega)], hv.top b hb⟩
  · intro b l e1
    exact hr.loc (Phi.view_some e1).2
  · intro b cs2 g2 leaf fl e1 e2 e3
    by_cases hlt : b < B
    · rw [hv.keep b hlt] at e1
      have hg := hv.grpB b cs2 g2 hlt e1
      rw [hv.keep g2 hg] at e3
      exact hr.mem e1 e2 e3
    · obtain ⟨_, cs, g, k1, k2, k3⟩ := hv.new b cs2 g2 (Nat.le_of_not_lt hlt) e1
      obtain ⟨_, m1, _⟩ := k3 e2
      rw [m1] at e3
      cases e3
      exact Nat.le_refl _
  · intro g leaf fl e1
    by_cases hlt : g < B
    · rw [hv.keep g hlt] at e1
      exact hr.flo e1
    · exact (hv.grp g leaf fl (Nat.le_of_not_lt hlt) e1).1
  · intro b l o2 e1 e2
    obtain ⟨_, e1⟩ := Phi.view_some e1
    obtain ⟨o, h1, h2⟩ := hv.oth b o2 e2
    obtain ⟨g1, g2⟩ := hr.oth e1 h1
    exact ⟨g1, g2.view h2⟩
theorem Rel.ext_view {B : Nat} {σ : Nat → Nat} {φ : Phi} {H H2 : Heap} {w : World} (hr : Rel φ H w) (hv : View B σ H H2) : ExtB B φ H w (φ.view σ H2.next) H2 w := by
  refine ⟨hr.view hv, ?_, ?_, ?_, hv.lo, fun _ _ => rfl, Nat.le_refl _, Same.refl w, fun hb _ e => ⟨by rw [hv.keep _ hb]; exact e, rfl⟩⟩
  · intro b l hb e
    exact Phi.view_of (Nat.lt_of_lt_of_le hb hv.lo) (by rw [hv.low b hb]; exact e)
  · intro b l hb e
    obtain ⟨h1, h2⟩ := Phi.view_some e
    refine ⟨Nat.le_of_not_lt (fun hlt => ?_), .inr ⟨σ b, l, h2, rfl⟩⟩
    rw [hv.low b hlt, hb hlt] at h2
    cases h2
  · intro b hb _ _
    exact hv.keep b hb
section
variable {P : Program} {G B n : Nat} {rd : Bool} {c : Code} {F F2 : Fr} {H H2 : Heap} {Q : X → Fr → Heap → Prop}
/-- code on a smaller heap -/
theorem WS_view {σ : Nat → Nat} (hv : View B σ H H2) (hF : ∀ t, t < n → Vw σ H2.next (F.get V.undef t) (F2.get V.undef t)) (h : WS P G B n rd c F2 H2 Q) : WS P G B n rd c F H Q := by
  intro φ a w ro h1 h2 h3 h4 h5 hGB hBn
  have he := h3.ext_view hv
  refine wpIn_mono (h _ a w ro h1 h2 he.rel (fun t ht => Rv.view (hF t (by rw [← h2]; exact ht)) (h4 t ht)) (h5.ext hGB he) hGB hv.lo) ?_
  intro e a' w' hp
  exact WPost.after (ms := []) he rfl trivial hp
end
end Go.Ev
