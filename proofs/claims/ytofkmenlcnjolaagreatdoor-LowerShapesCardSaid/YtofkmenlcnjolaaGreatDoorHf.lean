/- The code of LowerShapes in pieces, and what is asked of the closed runs. -/
import Derived.Test.YtofkmenlcnjolaaGreatDoorHe
import Derived.Test.YtofkmenlcnjolaaGreatDoorC9
import Derived.Test.YtofkmenlcnjolaaGreatDoorC7
namespace Go.Proofs.YtofkmenlcnjolaaGreatDoor
open Go.Ev
theorem rel_congr {φ : Phi} {H H2 : Heap} {w : World} (h : ∀ b, H2.get b = H.get b) (hn : H2.next = H.next) (hr : Rel φ H w) : Rel φ H2 w := by
  have hl : ∀ b g, H2.lives b g = H.lives b g := by
    intro b g
    cases g with
    | zero => rfl
    | succ g =>
      show AObj.casesOn (motive := fun _ => Bool) (H2.get _) false (fun _ _ => false) (fun _ fl => Nat.ble fl b) (fun _ => false) = AObj.casesOn (motive := fun _ => Bool) (H.get _) false (fun _ _ => false) (fun _ fl => Nat.ble fl b) (fun _ => false)
      rw [h]
  refine ⟨fun e1 e2 e3 e4 => hr.cell e1 ((h _).symm.trans e2) ((hl _ _).symm.trans e3) e4, hr.room, fun e1 e2 => hr.len e1 ((h _).symm.trans e2), ?_, ?_, hr.loc, fun e1 e2 e3 => hr.mem ((h _).symm.trans e1) e2 ((h _).symm.trans e3), fun e1 => hr.flo ((h _).symm.trans e1), fun e1 e2 => hr.oth e1 ((h _).symm.trans e2)⟩
  · intro b b' l l' e1 e2 e3 e4
    obtain ⟨cs, cs', g, g1, g2, g3⟩ := hr.inj e1 e2 e3 e4
    exact ⟨cs, cs', g, g1, (h _).trans g2, (h _).trans g3⟩
  · intro b hb
    rw [hn] at hb
    rw [h]
    exact hr.top hb
theorem ext_congr {φ ψ : Phi} {H H1 H2 : Heap} {w w' : World} (h : ∀ b, H2.get b = H1.get b) (hn : H2.next = H1.next) (he : Ext φ H w ψ H1 w') : Ext φ H w ψ H2 w' :=
  ⟨rel_congr h hn he.rel, he.le, he.fresh, fun e1 e2 e3 => (h _).trans (he.keepA e1 e2 e3), by rw [hn]; exact he.next, he.keepC, he.size, he.same, fun e1 e2 => let ⟨g1, g2⟩ := he.keepN e1 e2; ⟨(h _).trans g1, g2⟩⟩
theorem get_set' (H : Heap) (t : Nat) (o : AObj) (b : Nat) : (H.set t o).get b = if t = b then o else H.get b := Tr.get_set _ _ _ _ _
theorem CallTo.reset {t : Tgt} {args : List V} {H H1 : Heap} {u : V} {p : Nat} {o : AObj} (c : CallTo Tryz.prog 8 t args H fun v H' => v = u ∧ H' = H1) (ho : H1.get p = o) : CallTo Tryz.prog 8 t args H fun v H' => v = u ∧ H' = H1.set p o := by
  cases t with
  | yld b => 
    intro φ w a l h1 h2 h3 h4
    obtain ⟨f, tm, x, y, g1, g2⟩ := c φ w a l h1 h2 h3 h4
    refine ⟨f, tm, x, y, g1, g2.mono ?_⟩
    rintro e w' ⟨v, v', H', ψ, k1, k2, k3, k4, rfl⟩
    have hg : ∀ b', (H'.set p o).get b' = H'.get b' := by
      intro b'
      rw [get_set']
      split
      · rename_i e; subst e; exact ho.symm
      · rfl
    exact ⟨v, v', _, ψ, k1, ext_congr (H1 := H') (H2 := H'.set p o) hg rfl k2, k3, k4, rfl⟩
  | fn f =>
    refine ⟨c.1, fun φ w a h1 h2 h3 => (c.2 φ w a h1 h2 h3).mono ?_⟩
    rintro e w' ⟨v, v', H', ψ, k1, k2, k3, k4, rfl⟩
    have hg : ∀ b', (H'.set p o).get b' = H'.get b' := by
      intro b'
      rw [get_set']
      split
      · rename_i e; subst e; exact ho.symm
      · rfl
    exact ⟨v, v', _, ψ, k1, ext_congr (H1 := H') (H2 := H'.set p o) hg rfl k2, k3, k4, rfl⟩
theorem WS_fr {P : Program} {G B n : Nat} {rd : Bool} {c : Code} {F F2 : Fr} {H : Heap} {Q : X → Fr → Heap → Prop} (hF : ∀ t, t < n → ∀ φ v', Rv φ (F.get V.undef t) v' → Rv φ (F2.get V.undef t) v') (h : WS P G B n rd c F2 H Q) : WS P G B n rd c F H Q :=
  fun φ a w ro h1 h2 h3 h4 h5 h6 h7 => h φ a w ro h1 h2 h3 (fun t ht => hF t (h2 ▸ ht) φ _ (h4 t ht)) h5 h6 h7
/- the table for the closed runs -/
noncomputable def inF (f : Nat) : Bool := or (or (or (Nat.beq f 5) (Nat.beq f 6)) (or (Nat.beq f 7) (Nat.beq f 8))) (or (or (Nat.beq f 10) (Nat.beq f 11)) (or (Nat.beq f 12) (Nat.beq f 13)))
noncomputable def pick (l : List Ent) : List Ent := lfilter (fun e => inF e.f) l
theorem pick_ok {l : List Ent} (h : ∀ e ∈ l, EntOk Tryz.prog 8 e) : ∀ e ∈ pick l, EntOk Tryz.prog 8 e := by
  unfold pick
  induction l with
  | nil => intro e he; cases he
  | cons a l ih =>
    intro e he
    have he' : e ∈ Bool.casesOn (motive := fun _ => List Ent) (inF a.f) (lfilter (fun e => inF e.f) l) (a :: lfilter (fun e => inF e.f) l) := he
    cases hb : inF a.f with
    | false => rw [hb] at he'; exact ih (fun e he => h e (List.mem_cons_of_mem _ he)) e he'
    | true =>
      rw [hb] at he'
      cases he' with
      | head => exact h _ List.mem_cons_self
      | tail _ h2 => exact ih (fun e he => h e (List.mem_cons_of_mem _ he)) e h2
/- pieces of code -/
noncomputable def NN : Fns := fnsOf Tryz.prog
noncomputable def TT : Ty := tysOf Tryz.prog
noncomputable def body3 : Code := match NN.get Option.none 3 with | some f => (match f.body with | some c => c | Option.none => .skip) | Option.none => .skip
noncomputable def res3 : List ResultVar := match NN.get Option.none 3 with | some f => f.results.toList | Option.none => []
noncomputable def s1 (c : Code) : Code := match c with | .seq a _ => a | _ => .skip
noncomputable def s2 (c : Code) : Code := match c with | .seq _ a => a | _ => .skip
noncomputable def isSeq (c : Code) : Bool := match c with | .seq _ _ => true | _ => false
theorem isSeq_ok {c : Code} (h : isSeq c = true) : c = .seq (s1 c) (s2 c) := by cases c <;> first | rfl | cases h
noncomputable def q1 (c : Code) : Code := match c with | .cond _ a _ => a | _ => .skip
noncomputable def isCond30 (c : Code) : Bool := match c with | .cond (.tmp t) _ .skip => Nat.beq t 30 | _ => false
theorem isCond30_ok {c : Code} (h : isCond30 c = true) : c = .cond (.tmp 30) (q1 c) .skip := by
  cases c <;> first | (cases h; done) | skip
  rename_i x a b
  cases x <;> cases b <;> first | (cases h; done) | skip
  have h' := (beq_eq _ _).1 (show Nat.beq _ 30 = true from h)
  subst h'
  rfl
noncomputable def plan? (c : Code) : Option (List Ins) := match c with | .region _ ops d => oif (lall (operOk 8 82) ops.toList) (plan NN TT ops.toList d) | _ => Option.none
theorem plan_ws {B : Nat} {c : Code} {l : List Ins} (h : plan? c = some l) {F : Fr} {H : Heap} {Q : X → Fr → Heap → Prop} (hr : RunsTo Tryz.prog 8 l F H (Q .norm)) : WS Tryz.prog 8 B 82 false c F H Q := by
  cases c <;> first | (cases h; done) | skip
  rename_i id ops d
  obtain ⟨h1, h2⟩ := oif_some.1 (show oif (lall (operOk 8 82) ops.toList) (plan NN TT ops.toList d) = some l from h)
  exact WS_region (tys_ok _) (fns_ok _) hmix h1 h2 hr
noncomputable def k1 : Code := s2 body3
noncomputable def k2 : Code := s2 k1
noncomputable def k3 : Code := s2 k2
noncomputable def k4 : Code := s2 k3
noncomputable def q4 : Code := s1 k4
noncomputable def k5 : Code := s2 k4
noncomputable def R5 : Code := q1 (s2 q4)
theorem shapes : isSeq body3 = true ∧ isSeq k1 = true ∧ isSeq k2 = true ∧ isSeq k3 = true ∧ isSeq k4 = true ∧ isSeq q4 = true ∧ isCond30 (s2 q4) = true := by
  refine ⟨?_, ?_, ?_, ?_, ?_, ?_, ?_⟩ <;> decide +kernel
theorem okC : codeOk 8 82 (s1 body3) = true ∧ codeOk 8 82 (s1 k2) = true ∧ codeOk 8 82 (s1 k3) = true ∧ codeOk 8 82 (s1 q4) = true ∧ codeOk 8 82 k5 = true := by
  refine ⟨?_, ?_, ?_, ?_, ?_⟩ <;> decide +kernel
end Go.Proofs.YtofkmenlcnjolaaGreatDoor
